/- A part of the proof that the law PiecesRefines answers true at every input and leaves its arguments as they were. -/
import Derived.Test.YtnkaneggnjallaaGreatDoorH4
import Derived.Test.YtnkaneggnjallaaGreatDoorM1
import Derived.Test.YtnkaneggnjallaaGreatDoorHb
set_option linter.unusedVariables false
set_option linter.unusedSimpArgs false
namespace Go.Sx
theorem iT {a b : Nat} (h : a < b) : sgn a b = -1 := if_pos h
theorem iU {a b : Nat} (h : b < a) : sgn a b = 1 := by unfold sgn; rw [if_neg (by omega), if_pos h]
theorem fl (a : Nat) : sgn a a = 0 := by unfold sgn; rw [if_neg (Nat.lt_irrefl a), if_neg (Nat.lt_irrefl a)]
theorem sgn_neg {a b : Nat} : sgn a b < 0 ↔ a < b := by
  rcases Nat.lt_trichotomy a b with h | h | h
  · rw [iT h]; simp [h]
  · subst h; rw [fl]; simp
  · rw [iU h]; simp; omega
theorem sgn_zero {a b : Nat} : sgn a b = 0 ↔ a = b := by
  rcases Nat.lt_trichotomy a b with h | h | h
  · rw [iT h]; simp; omega
  · subst h; rw [fl]; simp
  · rw [iU h]; simp; omega
def Tv (i : Iv) : Prop := Tm i.lo ∧ Tm i.hi
def lI (i : Iv) : Nat := 2 * tk i.lo + (bif i.openLo then 1 else 0)
def lm (i : Iv) : Int := 2 * tk i.hi - (bif i.openHi then 1 else 0)
def Wv (i : Iv) : Prop := Tv i ∧ tk i.lo ≤ tk i.hi ∧ (tk i.lo = tk i.hi → i.openLo = false ∧ i.openHi = false)
theorem Wv.le {i : Iv} (h : Wv i) : (lI i : Int) ≤ lm i := by
  obtain ⟨_, h1, h2⟩ := h
  unfold lI lm
  by_cases e : tk i.lo = tk i.hi
  · rw [(h2 e).1, (h2 e).2, e]; simp
  · cases i.openLo <;> cases i.openHi <;> simp <;> omega
end Go.Sx
namespace Go.Sx
def Ts (l : List GR) : Prop := (∀ x ∈ l, Tm x) ∧ l.Pairwise fun x y => tk x < tk y
theorem fg {S R : Type} {B : S → Nx S R} (n : Nat) {s s' : S} (h : B s = .go s') : bQ B (n + 1) s = bQ B n s' := by
  show (match B s with | .go s' => bQ B n s' | .out s' => .inl s' | .ret r => .inr r) = _
  rw [h]
theorem eY {S R : Type} {B : S → Nx S R} (n : Nat) {s s' : S} (h : B s = .out s') : bQ B (n + 1) s = .inl s' := by
  show (match B s with | .go s' => bQ B n s' | .out s' => .inl s' | .ret r => .inr r) = _
  rw [h]
theorem lq {x : GR} (hx : Tm x) : ∀ (s p l : List GR) (k : Nat), l = p ++ s → s.length < k → Ts l → (∀ y ∈ p, tk y < tk x) →
    ∃ r, fin (bQ (fun s => bK l x s) k p.length) (fun s => gy l x s) (fun r => r) = r ∧ Ts r ∧ ∀ y, y ∈ r ↔ y ∈ l ∨ y = x
  | [], p, l, k + 1, hl, _, ht, hp => by
    have hn : ¬ ((p.length : Nat) : Int) < ((l.length : Nat) : Int) := by rw [hl]; simp
    rw [List.append_nil] at hl
    subst hl
    refine ⟨l ++ [x], ?_, ⟨?_, ?_⟩, fun y => by simp⟩
    · unfold bQ bK
      rw [decide_eq_false hn]
      rfl
    · intro y hy
      rcases List.mem_append.1 hy with hy | hy
      · exact ht.1 y hy
      · rw [List.mem_singleton.1 hy]; exact hx
    · rw [List.pairwise_append]
      exact ⟨ht.2, List.pairwise_singleton _ _, fun a ha b hb => by rw [List.mem_singleton.1 hb]; exact hp a ha⟩
  | y :: s, p, l, k + 1, hl, hk, ht, hp => by
    have hn : ((p.length : Nat) : Int) < ((l.length : Nat) : Int) := by rw [hl]; simp; omega
    have hg : gt l p.length = y := by rw [hl]; exact kt rfl
    have hy : Tm y := ht.1 y (by rw [hl]; simp)
    have hc : ao x y = sgn (tk x) (tk y) := hx.cmp hy
    have htl := ht.2
    rw [hl, List.pairwise_append, List.pairwise_cons] at htl
    rcases Nat.lt_trichotomy (tk x) (tk y) with h | h | h
    · refine ⟨((([] ++ (l.take p.length)) ++ [x]) ++ (l.drop p.length)), ?_, ?_, ?_⟩
      · unfold bQ bK
        rw [decide_eq_true hn, hg, hc, iT h]
        rfl
      · have e : ((([] ++ (l.take p.length)) ++ [x]) ++ (l.drop p.length)) = p ++ x :: y :: s := by rw [hl]; simp
        rw [e]
        refine ⟨fun z hz => ?_, ?_⟩
        · rcases List.mem_append.1 hz with hz | hz
          · exact ht.1 z (by rw [hl]; simp [hz])
          · rcases List.mem_cons.1 hz with rfl | hz
            · exact hx
            · exact ht.1 z (by rw [hl]; exact List.mem_append_right _ hz)
        · rw [List.pairwise_append, List.pairwise_cons, List.pairwise_cons]
          refine ⟨htl.1, ⟨fun z hz => ?_, htl.2.1⟩, fun a ha b hb => ?_⟩
          · rcases List.mem_cons.1 hz with rfl | hz
            · exact h
            · exact Nat.lt_trans h (htl.2.1.1 z hz)
          · rcases List.mem_cons.1 hb with rfl | hb
            · exact hp a ha
            · exact htl.2.2 a ha b hb
      · intro z
        rw [hl]
        simp only [List.nil_append, List.take_left', List.drop_left', List.append_assoc, List.mem_append, List.mem_singleton, List.singleton_append, List.mem_cons]
        constructor
        · rintro (h | h | h)
          · exact .inl (.inl h)
          · exact .inr h
          · exact .inl (.inr h)
        · rintro ((h | h) | h)
          · exact .inl h
          · exact .inr (.inr h)
          · exact .inr (.inl h)
    · have e := (hx.inj hy).1 h
      refine ⟨l, ?_, ht, fun z => ⟨.inl, fun hz => hz.elim id fun e' => by rw [e', e, hl]; simp⟩⟩
      unfold bQ bK
      rw [decide_eq_true hn, hg, hc, h, fl]
      rfl
    · obtain ⟨r, h1, h2⟩ := lq hx s (p ++ [y]) l k (by rw [hl]; simp) (by simp at hk; omega) ht (fun z hz => by
        rcases List.mem_append.1 hz with hz | hz
        · exact hp z hz
        · rw [List.mem_singleton.1 hz]; exact h)
      refine ⟨r, ?_, h2⟩
      rw [← h1, List.length_append]
      have e : bK l x p.length = .go (p.length + 1) := by
        unfold bK
        rw [decide_eq_true hn, hg, hc, iU h]
        rfl
      rw [fg (B := fun s => bK l x s) k e]
      rfl
theorem ni {l : List GR} {x : GR} (hl : Ts l) (hx : Tm x) : Ts (ak l x) ∧ ∀ y, y ∈ ak l x ↔ y ∈ l ∨ y = x := by
  obtain ⟨r, h1, h2⟩ := lq hx l [] l (l.length - 0 + 1) rfl (by omega) hl (fun _ h => by cases h)
  have e : ak l x = r := by
    unfold ak
    exact h1
  rw [e]
  exact h2
def iG (l : List Iv) : List GR := l.foldl (fun o i => ak (ak o i.lo) i.hi) []
theorem qw {l : List Iv} (hl : ∀ i ∈ l, Tv i) : ∀ {o : List GR}, Ts o → Ts (l.foldl (fun o i => ak (ak o i.lo) i.hi) o) ∧ ∀ y, y ∈ l.foldl (fun o i => ak (ak o i.lo) i.hi) o ↔ y ∈ o ∨ ∃ i ∈ l, y = i.lo ∨ y = i.hi := by
  induction l with
  | nil => intro o ho; exact ⟨ho, fun y => by simp⟩
  | cons i l ih =>
    intro o ho
    have hi := hl i (List.mem_cons_self ..)
    obtain ⟨h1, h2⟩ := ni ho hi.1
    obtain ⟨h3, h4⟩ := ni h1 hi.2
    obtain ⟨h5, h6⟩ := ih (fun j hj => hl j (List.mem_cons_of_mem _ hj)) h3
    refine ⟨h5, fun y => ?_⟩
    rw [List.foldl_cons, h6, h4, h2]
    constructor
    · rintro (((h | h) | h) | ⟨j, hj, h⟩)
      · exact .inl h
      · exact .inr ⟨i, List.mem_cons_self .., .inl h⟩
      · exact .inr ⟨i, List.mem_cons_self .., .inr h⟩
      · exact .inr ⟨j, List.mem_cons_of_mem _ hj, h⟩
    · rintro (h | ⟨j, hj, h⟩)
      · exact .inl (.inl (.inl h))
      · rcases List.mem_cons.1 hj with rfl | hj
        · rcases h with h | h
          · exact .inl (.inl (.inr h))
          · exact .inl (.inr h)
        · exact .inr ⟨j, hj, h⟩
theorem mE {l : List Iv} (hl : ∀ i ∈ l, Tv i) : Ts (iG l) ∧ ∀ y, y ∈ iG l ↔ ∃ i ∈ l, y = i.lo ∨ y = i.hi := by
  obtain ⟨h1, h2⟩ := qw hl (o := []) ⟨fun _ h => (by cases h), List.Pairwise.nil⟩
  exact ⟨h1, fun y => by rw [iG, h2]; simp⟩
theorem jZ {α β R : Type} [Inhabited α] {f : β → α → β} (l : List α) {B : β × Nat → Nx (β × Nat) R} (hgo : ∀ o i, i < l.length → B (o, i) = .go (f o (gt l i), i + 1)) (hout : ∀ o, B (o, l.length) = .out (o, l.length)) :
    ∀ (s p : List α) (o : β) (k : Nat), l = p ++ s → s.length < k → bQ B k (o, p.length) = .inl (s.foldl f o, l.length)
  | [], p, o, k + 1, hl, _ => by
    rw [List.append_nil] at hl
    rw [← hl, eY k (hout o)]
    rfl
  | x :: s, p, o, k + 1, hl, hk => by
    have hg : gt l p.length = x := by rw [hl]; exact kt rfl
    have h1 := hgo o p.length (by rw [hl]; simp)
    rw [hg] at h1
    have ih := jZ l hgo hout s (p ++ [x]) (f o x) k (by rw [hl]; simp) (by simp at hk; omega)
    rw [fg k h1, List.foldl_cons, ← ih, List.length_append]
    rfl
theorem ends_int (l : List (U Int)) : bI l [] = iG (l.map (·.iv)) := by
  unfold bI
  have := jZ (R := List GR) (f := fun (o : List GR) (u : U Int) => ak (ak o u.iv.lo) u.iv.hi) l (B := fun s => ci l [] s.1 s.2)
    (fun o i hi => by
      show ci l [] o i = _
      unfold ci
      rw [decide_eq_true (by omega : ((i : Nat) : Int) < ((l.length : Nat) : Int))]
      rfl)
    (fun o => by
      show ci l [] o l.length = _
      unfold ci
      rw [decide_eq_false (by omega : ¬ ((l.length : Nat) : Int) < ((l.length : Nat) : Int))]
      rfl) l [] [] (l.length - 0 + 1) rfl (by omega)
  refine (ew this).trans ?_
  unfold fN iG
  rw [List.foldl_map]
end Go.Sx
namespace Go.Sx
section
variable {α : Type}
def ptA (z : α) (t : GR) : At α := ⟨t, t, false, false, z⟩
def gapA (z : α) (t t' : GR) : At α := ⟨t, t', true, false, z⟩
def eR (z : α) : List GR → List (At α)
  | [] => []
  | [t] => [ptA z t]
  | t :: t' :: r => ptA z t :: gapA z t t' :: eR z (t' :: r)
def j7 (u : U α) (a : At α) : At α := bif cm u.iv a.frm a.til a.gap then ⟨a.frm, a.til, a.gap, true, u.f⟩ else a
def jK (l : List (U α)) (a : At α) : At α := l.foldl (fun a u => j7 u a) a
def f5 (z : α) (l : List (U α)) (ts : List GR) : List (At α) := (eR z ts).map (jK l)
end
theorem gt_set {α : Type} [Inhabited α] {l : List α} {i : Nat} {x : α} (h : i < l.length) : gt (l.set i x) i = x := by
  simp [gt, List.getD, h]
theorem pM {α : Type} [Inhabited α] {l : List α} {i : Nat} (h : i < l.length) : l.set i (gt l i) = l := by
  simp [gt, List.getD, List.getElem?_eq_getElem h]
section
variable {α R : Type} [Inhabited (At α)]
omit [Inhabited (At α)] in
theorem kd {z : α} {ts : List GR} {B : List (At α) × Nat → Nx (List (At α) × Nat) R}
    (h1 : ∀ o i, i + 1 < ts.length → B (o, i) = .go ((o ++ [ptA z (gt ts i)]) ++ [gapA z (gt ts i) (gt ts (i + 1))], i + 1))
    (h2 : ∀ o i, i + 1 = ts.length → B (o, i) = .go (o ++ [ptA z (gt ts i)], i + 1)) (h3 : ∀ o, B (o, ts.length) = .out (o, ts.length)) :
    ∀ (s p : List GR) (o : List (At α)) (k : Nat), ts = p ++ s → s.length < k → bQ B k (o, p.length) = .inl (o ++ eR z s, ts.length)
  | [], p, o, k + 1, hl, _ => by
    rw [List.append_nil] at hl
    rw [← hl, eY k (h3 o), eR, List.append_nil]
  | [t], p, o, k + 1, hl, hk => by
    have e := h2 o p.length (by rw [hl]; simp)
    have hg : gt ts p.length = t := by rw [hl]; exact kt rfl
    rw [hg] at e
    have ih := kd h1 h2 h3 [] (p ++ [t]) (o ++ [ptA z t]) k (by rw [hl]; simp) (by simp at hk; omega)
    rw [List.length_append] at ih
    rw [fg k e]
    refine Eq.trans ih ?_
    simp [eR]
  | t :: t' :: r, p, o, k + 1, hl, hk => by
    have e := h1 o p.length (by rw [hl]; simp)
    have hg : gt ts p.length = t := by rw [hl]; exact kt rfl
    have hg' : gt ts (p.length + 1) = t' := by
      rw [hl, show p ++ t :: t' :: r = (p ++ [t]) ++ t' :: r by simp]
      exact kt (by simp)
    rw [hg, hg'] at e
    have ih := kd h1 h2 h3 (t' :: r) (p ++ [t]) ((o ++ [ptA z t]) ++ [gapA z t t']) k (by rw [hl]; simp) (by simp at hk ⊢; omega)
    rw [List.length_append] at ih
    rw [fg k e]
    refine Eq.trans ih ?_
    simp [eR]
theorem kv {β γ : Type} [Inhabited γ] {f : β → γ → β} (l : List γ) {B : Nat × β → Nx (Nat × β) R} {I : β → Prop} (hI : ∀ o x, I o → I (f o x)) (hgo : ∀ o i, I o → i < l.length → B (i, o) = .go (i + 1, f o (gt l i))) (hout : ∀ o, B (l.length, o) = .out (l.length, o)) :
    ∀ (s p : List γ) (o : β) (k : Nat), I o → l = p ++ s → s.length < k → bQ B k (p.length, o) = .inl (l.length, s.foldl f o)
  | [], p, o, k + 1, _, hl, _ => by
    rw [List.append_nil] at hl
    rw [← hl, eY k (hout o)]
    rfl
  | x :: s, p, o, k + 1, hi, hl, hk => by
    have hg : gt l p.length = x := by rw [hl]; exact kt rfl
    have h1 := hgo o p.length hi (by rw [hl]; simp)
    rw [hg] at h1
    have ih := kv l hI hgo hout s (p ++ [x]) (f o x) k (hI _ _ hi) (by rw [hl]; simp) (by simp at hk; omega)
    rw [fg k h1, List.foldl_cons, ← ih, List.length_append]
    rfl
theorem mC (i : Nat) : ∀ (l : List (U α)) (o : List (At α)), i < o.length → l.foldl (fun o u => o.set i (j7 u (gt o i))) o = o.set i (jK l (gt o i))
  | [], o, h => (pM h).symm
  | u :: l, o, h => by
    rw [List.foldl_cons, mC i l _ (by simpa using h), gt_set h, List.set_set]
    rfl
end
theorem mr {γ R : Type} [Inhabited γ] {g : γ → γ} {n : Nat} {B : Nat × List γ → Nx (Nat × List γ) R} (hgo : ∀ o i, i < o.length → o.length = n → B (i, o) = .go (i + 1, o.set i (g (gt o i)))) (hout : ∀ o, o.length = n → B (n, o) = .out (n, o)) :
    ∀ (s p : List γ) (k : Nat), p.length + s.length = n → s.length < k → bQ B k (p.length, p ++ s) = .inl (n, p ++ s.map g)
  | [], p, k + 1, hn, _ => by
    rw [List.append_nil]
    simp at hn
    rw [hn, eY k (hout p hn), List.map_nil, List.append_nil]
  | x :: s, p, k + 1, hn, hk => by
    have h1 := hgo (p ++ x :: s) p.length (by simp) (by simpa using hn)
    rw [kt rfl, List.set_append_right _ _ (Nat.le_refl _), Nat.sub_self, List.set_cons_zero] at h1
    have ih := mr hgo hout s (p ++ [g x]) k (by simp at hn ⊢; omega) (by simp at hk; omega)
    rw [List.length_append, List.append_assoc] at ih
    rw [fg k h1]
    refine Eq.trans ih ?_
    simp
theorem qZ (l : List (U Int)) (ts : List GR) : bT l ts = f5 0 l ts := by
  unfold bT f5
  have h1 := kd (R := List (At Int)) (z := (0 : Int)) (ts := ts) (B := fun s => bB l ts s.1 s.2)
    (fun o i hi => by
      show bB l ts o i = _
      unfold bB
      rw [decide_eq_true (by omega : ((i : Nat) : Int) < ((ts.length : Nat) : Int)), decide_eq_true (by omega : ((i + 1 : Nat) : Int) < ((ts.length : Nat) : Int))]
      rfl)
    (fun o i hi => by
      show bB l ts o i = _
      unfold bB
      rw [decide_eq_true (by omega : ((i : Nat) : Int) < ((ts.length : Nat) : Int)), decide_eq_false (by omega : ¬ ((i + 1 : Nat) : Int) < ((ts.length : Nat) : Int))]
      rfl)
    (fun o => by
      show bB l ts o ts.length = _
      unfold bB
      rw [decide_eq_false (by omega : ¬ ((ts.length : Nat) : Int) < ((ts.length : Nat) : Int))]
      rfl) ts [] [] (ts.length - 0 + 1) rfl (by omega)
  refine (ew h1).trans ?_
  show eP l ts ([] ++ eR 0 ts) ts.length = _
  rw [List.nil_append]
  generalize eR (0 : Int) ts = o0
  unfold eP
  have h2 := mr (R := List (At Int)) (g := jK l) (n := o0.length) (B := fun s => cd l ts o0 ts.length s.1 s.2)
    (fun o i hi hn => by
      show cd l ts o0 ts.length i o = _
      unfold cd
      rw [decide_eq_true (by omega : ((i : Nat) : Int) < ((o.length : Nat) : Int)), cond_true]
      have h3 := kv (R := List (At Int)) (f := fun o u => o.set i (j7 u (gt o i))) l (I := fun o => i < o.length) (B := fun s => bS l ts o0 ts.length i o s.1 s.2)
        (fun o x h => by simpa using h)
        (fun o k ho hk => by
          show bS l ts o0 ts.length i _ k o = _
          unfold bS j7
          rw [decide_eq_true (by omega : ((k : Nat) : Int) < ((l.length : Nat) : Int)), cond_true]
          cases cm (gt l k).iv (gt o i).frm (gt o i).til (gt o i).gap
          · rw [cond_false, cond_false, pM ho]
          · rfl)
        (fun o' => by
          show bS l ts o0 ts.length i _ l.length o' = _
          unfold bS
          rw [decide_eq_false (by omega : ¬ ((l.length : Nat) : Int) < ((l.length : Nat) : Int))]
          rfl) l [] o (l.length - 0 + 1) hi rfl (by omega)
      refine (ew h3).trans ?_
      show eO l ts o0 ts.length i _ l.length _ = _
      unfold eO
      rw [mC i l o hi])
    (fun o hn => by
      show cd l ts o0 ts.length o0.length o = _
      unfold cd
      rw [hn, decide_eq_false (by omega : ¬ ((o0.length : Nat) : Int) < ((o0.length : Nat) : Int))]
      rfl) o0 [] (o0.length - 0 + 1) (by simp) (by omega)
  refine (ew h2).trans ?_
  rfl
end Go.Sx
namespace Go.Sx
def Dj (a b : Iv) : Prop := lm a < (lI b : Int) ∨ lm b < (lI a : Int)
theorem Dj.symm {a b : Iv} (h : Dj a b) : Dj b a := Or.symm h
section
variable {α : Type}
end
end Go.Sx
namespace Go.Sx
section
variable {α : Type}
theorem kT {z : α} {a : At α} : ∀ {ts : List GR}, a ∈ eR z ts ↔ (∃ t ∈ ts, a = ptA z t) ∨ ∃ t t', (∃ p s, ts = p ++ t :: t' :: s) ∧ a = gapA z t t'
  | [] => by
    constructor
    · intro h; cases h
    · rintro (⟨t, h, _⟩ | ⟨t, t', ⟨p, s, h⟩, _⟩)
      · cases h
      · cases p <;> cases h
  | [t] => by
    constructor
    · intro h
      exact .inl ⟨t, List.mem_cons_self .., List.mem_singleton.1 h⟩
    · rintro (⟨x, h, e⟩ | ⟨x, t', ⟨p, s, h⟩, _⟩)
      · rw [e, List.mem_singleton.1 h]; exact List.mem_cons_self ..
      · have := congrArg List.length h
        simp at this
        omega
  | t :: t' :: r => by
    have ih := kT (z := z) (a := a) (ts := t' :: r)
    constructor
    · intro h
      rcases List.mem_cons.1 h with e | h
      · exact .inl ⟨t, List.mem_cons_self .., e⟩
      · rcases List.mem_cons.1 h with e | h
        · exact .inr ⟨t, t', ⟨[], r, rfl⟩, e⟩
        · rcases ih.1 h with ⟨x, hx, e⟩ | ⟨x, y, ⟨p, s, hs⟩, e⟩
          · exact .inl ⟨x, List.mem_cons_of_mem _ hx, e⟩
          · exact .inr ⟨x, y, ⟨t :: p, s, by rw [hs]; rfl⟩, e⟩
    · rintro (⟨x, hx, e⟩ | ⟨x, y, ⟨p, s, hs⟩, e⟩)
      · rcases List.mem_cons.1 hx with rfl | hx
        · rw [e]; exact List.mem_cons_self ..
        · exact List.mem_cons_of_mem _ (List.mem_cons_of_mem _ (ih.2 (.inl ⟨x, hx, e⟩)))
      · cases p with
        | nil =>
          rw [List.nil_append, List.cons.injEq, List.cons.injEq] at hs
          rw [e, ← hs.1, ← hs.2.1]
          exact List.mem_cons_of_mem _ (List.mem_cons_self ..)
        | cons q p =>
          rw [List.cons_append, List.cons.injEq] at hs
          exact List.mem_cons_of_mem _ (List.mem_cons_of_mem _ (ih.2 (.inr ⟨x, y, ⟨p, s, hs.2⟩, e⟩)))
end
theorem next_iff {ts : List GR} (h : Ts ts) {t t' : GR} : (∃ p s, ts = p ++ t :: t' :: s) ↔ t ∈ ts ∧ t' ∈ ts ∧ tk t < tk t' ∧ ∀ x ∈ ts, ¬ (tk t < tk x ∧ tk x < tk t') := by
  constructor
  · rintro ⟨p, s, rfl⟩
    have hp := h.2
    rw [List.pairwise_append, List.pairwise_cons, List.pairwise_cons] at hp
    refine ⟨by simp, by simp, hp.2.1.1 t' (List.mem_cons_self ..), fun x hx => ?_⟩
    rcases List.mem_append.1 hx with hx | hx
    · have := hp.2.2 x hx t (List.mem_cons_self ..); omega
    · rcases List.mem_cons.1 hx with rfl | hx
      · omega
      · rcases List.mem_cons.1 hx with rfl | hx
        · omega
        · have := hp.2.1.2.1 x hx; omega
  · rintro ⟨h1, h2, h3, h4⟩
    obtain ⟨p, s, rfl⟩ := List.append_of_mem h1
    have hp := h.2
    rw [List.pairwise_append, List.pairwise_cons] at hp
    have h5 : t' ∈ s := by
      rcases List.mem_append.1 h2 with h2 | h2
      · have := hp.2.2 t' h2 t (List.mem_cons_self ..); omega
      · rcases List.mem_cons.1 h2 with rfl | h2
        · omega
        · exact h2
    cases s with
    | nil => cases h5
    | cons x s =>
      refine ⟨p, s, ?_⟩
      rcases List.mem_cons.1 h5 with rfl | h6
      · rfl
      · rw [List.pairwise_cons] at hp
        have e1 := hp.2.1.1 x (List.mem_cons_self ..)
        have e2 := hp.2.1.2.1 t' h6
        exact absurd ⟨e1, e2⟩ (h4 x (by simp))
section
variable {α : Type}
end
end Go.Sx
namespace Go.Sx
theorem lst_b (i : Iv) : 2 * (tk i.hi : Int) - 1 ≤ lm i ∧ lm i ≤ 2 * tk i.hi := by unfold lm; cases i.openHi <;> simp <;> omega
section
variable {α : Type}
def toU (a : At α) : U α := ⟨⟨a.frm, a.til, a.gap, a.gap⟩, a.f⟩
end
end Go.Sx
namespace Go.Sx
section
variable {α : Type}
theorem eW : ∀ (u : List (U α)) (a : At α), (jK u a).frm = a.frm ∧ (jK u a).gap = a.gap ∧ (jK u a).til = a.til
  | [], _ => ⟨rfl, rfl, rfl⟩
  | x :: u, a => by
    obtain ⟨h1, h2, h3⟩ := eW u (j7 x a)
    have e : (j7 x a).frm = a.frm ∧ (j7 x a).gap = a.gap ∧ (j7 x a).til = a.til := by
      unfold j7
      cases cm x.iv a.frm a.til a.gap <;> exact ⟨rfl, rfl, rfl⟩
    exact ⟨h1.trans e.1, h2.trans e.2.1, h3.trans e.2.2⟩
end
end Go.Sx
namespace Go.Sx
section
variable {α : Type}
theorem jI {β : Type} [Inhabited β] {l : List β} {i : Nat} (h : i < l.length) : gt l i = l[i] := by
  simp [gt, List.getD, List.getElem?_eq_getElem h]
end
end Go.Sx
namespace Go.Sx
theorem mS {α : Type} {z : α} {E : List GR} (hE : Ts E) {a : At α} (ha : a ∈ eR z E) : Tm a.frm ∧ Tm a.til ∧ (a.gap = false → a.til = a.frm) ∧ (a.gap = true → tk a.frm < tk a.til) := by
  rcases kT.1 ha with ⟨t, ht, rfl⟩ | ⟨t, t', hn, rfl⟩
  · exact ⟨hE.1 t ht, hE.1 t ht, fun _ => rfl, fun h => (by cases h)⟩
  · obtain ⟨h1, h2, h3, _⟩ := (next_iff hE).1 hn
    exact ⟨hE.1 t h1, hE.1 t' h2, fun h => (by cases h), fun _ => h3⟩
end Go.Sx
namespace Go.Sx
theorem tk_at (n : Nat) (r : Bool) (hn : n < 45) : tk (ad (n : Int) r) = 10 * n + (bif r then 14 else 0) := by
  have h : ((List.range 45).all fun i => (tk (ad (Int.ofNat i) false) == 10 * i) && (tk (ad (Int.ofNat i) true) == 10 * i + 14)) = true := by decide +kernel
  have h1 := List.all_eq_true.1 h n (List.mem_range.2 hn)
  simp only [Bool.and_eq_true, beq_iff_eq] at h1
  cases r
  · exact h1.1
  · exact h1.2
theorem tm_at (n : Nat) (r : Bool) (hn : n < 45) : Tm (ad (n : Int) r) := ⟨n, r, hn, rfl⟩
end Go.Sx
namespace Go.Sx
section
variable {α : Type} [Inhabited α] (eqf : α → α → Bool) (same : α → α → GR → Bool) (red : α → GR → α)
def befB (L out : List (U α)) (x : Nat) : Bool := (decide (((out.length : Nat) : Int) > 0) && decide ((gt out (out.length - 1)).iv.hi = (gt L x).iv.lo)) && !(aQ (gt out (out.length - 1)).iv)
def pe (out : List (U α)) (t : GR) : Bool := (decide (((out.length : Nat) : Int) > 0) && decide ((gt out (out.length - 1)).iv.hi = t)) && !((gt out (out.length - 1)).iv.openHi)
def lR (L out : List (U α)) (x : Nat) : List (U α) :=
  bif ((((decide (((x : Nat) : Int) > 0)) && (aQ ((gt L (x - 1)).iv))) && (decide (((gt L (x - 1)).iv).lo = ((gt L x).iv).lo))) && (!(pe out (((gt L x).iv).lo)))) then
    out ++ [(⟨(⟨((gt L x).iv).lo, ((gt L x).iv).hi, false, ((gt L x).iv).openHi⟩ : Iv), (gt L x).f⟩ : U α)]
  else out ++ [gt L x]
def mm (L out : List (U α)) (x : Nat) : List (U α) :=
  bif (((decide (((x + 1 : Nat) : Int) < ((L.length : Nat) : Int))) && (decide (((gt L (x + 1)).iv).lo = ((gt L x).iv).lo))) && (same ((gt L (x + 1)).f) ((gt L x).f) (((gt L x).iv).lo))) then out
  else out ++ [(⟨(gt L x).iv, (red ((gt L x).f) (((gt L x).iv).lo))⟩ : U α)]
def jG (L out : List (U α)) (x : Nat) : List (U α) :=
  bif befB L out x then
    bif (!(aQ ((gt L x).iv))) then
      bif ((!((gt out (out.length - 1)).iv).openHi) && (eqf ((gt out (out.length - 1)).f) ((gt L x).f))) then
        out.set (out.length - 1) (⟨(⟨((gt out (out.length - 1)).iv).lo, ((gt L x).iv).hi, ((gt out (out.length - 1)).iv).openLo, true⟩ : Iv), (gt out (out.length - 1)).f⟩ : U α)
      else lR L out x
    else
      bif (same ((gt out (out.length - 1)).f) ((gt L x).f) (((gt L x).iv).lo)) then
        out.set (out.length - 1) (⟨(⟨((gt out (out.length - 1)).iv).lo, ((gt out (out.length - 1)).iv).hi, ((gt out (out.length - 1)).iv).openLo, false⟩ : Iv), (gt out (out.length - 1)).f⟩ : U α)
      else mm same red L out x
  else
    bif (!(aQ ((gt L x).iv))) then lR L out x else mm same red L out x
def dT (l : List (At α)) (out : List (U α)) (i : Nat) : List (U α) :=
  bif (!(gt l i).has) then out
  else bif (gt l i).gap then
    bif (((((decide (((i : Nat) : Int) ≥ 2)) && (gt l (i - 2)).has) && (gt l (i - 1)).has) && (same ((gt l (i - 2)).f) ((gt l (i - 1)).f) ((gt l i).frm))) && (eqf ((gt l (i - 2)).f) ((gt l i).f))) then
      out.set (out.length - 1) (⟨(⟨((gt out (out.length - 1)).iv).lo, (gt l i).til, ((gt out (out.length - 1)).iv).openLo, true⟩ : Iv), (gt out (out.length - 1)).f⟩ : U α)
    else
      out ++ [(⟨(⟨(gt l i).frm, (gt l i).til, (!(((gt l (i - 1)).has && (same ((gt l i).f) ((gt l (i - 1)).f) ((gt l i).frm))) && (!(((decide (((i : Nat) : Int) ≥ 2)) && (gt l (i - 2)).has) && (same ((gt l (i - 2)).f) ((gt l (i - 1)).f) ((gt l i).frm)))))), true⟩ : Iv), (gt l i).f⟩ : U α)]
  else
    bif (((decide (((i : Nat) : Int) > 0)) && (gt l (i - 1)).has) && (same ((gt l (i - 1)).f) ((gt l i).f) ((gt l i).frm))) then
      out.set (out.length - 1) (⟨(⟨((gt out (out.length - 1)).iv).lo, ((gt out (out.length - 1)).iv).hi, ((gt out (out.length - 1)).iv).openLo, false⟩ : Iv), (gt out (out.length - 1)).f⟩ : U α)
    else
      bif (((decide (((i + 1 : Nat) : Int) < ((l.length : Nat) : Int))) && (gt l (i + 1)).has) && (same ((gt l (i + 1)).f) ((gt l i).f) ((gt l i).frm))) then out
      else out ++ [(⟨(⟨(gt l i).frm, (gt l i).til, false, false⟩ : Iv), (red ((gt l i).f) ((gt l i).frm))⟩ : U α)]
end
theorem mK {S R : Type} {b : Bool} {X Y : Nx (S × Nat) R} {p q : S} {k : Nat} (h1 : X = .go (p, k)) (h2 : Y = .go (q, k)) : (bif b then X else Y) = .go (bif b then p else q, k) := by cases b <;> assumption
theorem pu (l : List (At Int)) (out : List (U Int)) (i : Nat) (hi : i < l.length) :
    bc l out i = .go (dT cA aT aY l out i, i + 1) := by
  unfold bc dT
  rw [decide_eq_true (by omega : ((i : Nat) : Int) < ((l.length : Nat) : Int)), cond_true]
  cases (gt l i).has <;> cases (gt l i).gap <;> simp only [Bool.not_true, Bool.not_false, cond_true, cond_false]
  · repeat' (first | refine mK ?_ ?_ | rfl)
  · repeat' (first | refine mK ?_ ?_ | rfl)
end Go.Sx
namespace Go.Sx
def hQ {β : Type} (st : β → Nat → β) (o : β) : Nat → β
  | 0 => o
  | n + 1 => st (hQ st o n) n
theorem lp {β R : Type} {st : β → Nat → β} {o : β} {n : Nat} {B : β × Nat → Nx (β × Nat) R} (hgo : ∀ o i, i < n → B (o, i) = .go (st o i, i + 1)) (hout : ∀ o, B (o, n) = .out (o, n)) :
    ∀ (k i : Nat), i ≤ n → n - i < k → bQ B k (hQ st o i, i) = .inl (hQ st o n, n)
  | k + 1, i, hi, hk => by
    by_cases e : i = n
    · subst e; exact eY k (hout _)
    · rw [fg k (hgo _ i (by omega))]
      exact lp hgo hout k (i + 1) (by omega) (by omega)
theorem built_eq (l : List (At Int)) : cM l = hQ (dT cA aT aY l) [] l.length := by
  unfold cM
  refine (ew (lp (o := ([] : List (U Int))) (st := dT cA aT aY l) (n := l.length) (B := fun s => bc l s.1 s.2)
    (fun o i hi => pu l o i hi) (fun o => by
      show bc l o _ = _
      unfold bc
      rw [decide_eq_false (by omega : ¬ ((l.length : Nat) : Int) < ((l.length : Nat) : Int))]
      rfl) _ 0 (Nat.zero_le _) (by omega))).trans ?_
  rfl
end Go.Sx
namespace Go.Sx
section
variable {α : Type} [Inhabited α]
def io (A : List (At α)) : List (U α) := (A.filter (·.has)).map toU
def fH (A : List (At α)) (i : Nat) : Nat := ((A.take i).filter (·.has)).length
omit [Inhabited α] in
theorem oL (A : List (At α)) : fH A A.length = (io A).length := by unfold fH io; rw [List.take_length, List.length_map]
theorem pF {A : List (At α)} {i : Nat} (h : i < A.length) : A.take (i + 1) = A.take i ++ [gt A i] := by
  rw [jI h, List.take_append_getElem]
theorem kV {A : List (At α)} {i : Nat} (h : i < A.length) (hh : (gt A i).has = true) : fH A (i + 1) = fH A i + 1 := by
  unfold fH; rw [pF h, List.filter_append, List.filter_cons, if_pos hh]; simp
theorem mM {A : List (At α)} {i : Nat} (h : i < A.length) (hh : (gt A i).has = false) : fH A (i + 1) = fH A i := by
  unfold fH; rw [pF h, List.filter_append, List.filter_cons, if_neg (by rw [hh]; decide)]; simp
omit [Inhabited α] in
theorem pg {A : List (At α)} (i : Nat) : io A = ((A.take i).filter (·.has)).map toU ++ ((A.drop i).filter (·.has)).map toU := by
  unfold io; rw [← List.map_append, ← List.filter_append, List.take_append_drop]
theorem ks {A : List (At α)} {i : Nat} (h : i < A.length) (hh : (gt A i).has = true) : fH A i < (io A).length ∧ gt (io A) (fH A i) = toU (gt A i) := by
  have e : A.drop i = gt A i :: A.drop (i + 1) := by rw [jI h]; exact List.drop_eq_getElem_cons h
  have e2 := pg (A := A) i
  rw [e, List.filter_cons, if_pos hh, List.map_cons] at e2
  have hl : fH A i = (((A.take i).filter (·.has)).map toU).length := by rw [List.length_map]; rfl
  rw [e2, hl]
  refine ⟨by simp, kt rfl⟩
end
end Go.Sx
namespace Go.Sx
section
variable {α : Type} [Inhabited (At α)]
omit [Inhabited (At α)] in
theorem qY {z : α} {t : GR} {r : List GR} : ∃ q, eR z (t :: r) = ptA z t :: q := by
  cases r with
  | nil => exact ⟨[], rfl⟩
  | cons t' r => exact ⟨_, rfl⟩
theorem mT {z : α} : ∀ {ts : List GR} (i : Nat), i < (eR z ts).length → (gt (eR z ts) i).gap = decide (i % 2 = 1) ∧ (i + 1 < (eR z ts).length → (gt (eR z ts) (i + 1)).frm = (gt (eR z ts) i).til)
  | [], i, h => absurd h (Nat.not_lt_zero _)
  | [t], 0, _ => ⟨rfl, fun h => absurd h (by simp [eR])⟩
  | [t], i + 1, h => absurd h (by simp [eR])
  | t :: t' :: r, 0, _ => ⟨rfl, fun _ => rfl⟩
  | t :: t' :: r, 1, _ => by
    obtain ⟨q, hq⟩ := qY (z := z) (t := t') (r := r)
    refine ⟨rfl, fun _ => ?_⟩
    show (gt (eR z (t' :: r)) 0).frm = t'
    rw [hq]; rfl
  | t :: t' :: r, i + 2, h => by
    have ih := mT (z := z) (ts := t' :: r) i (by simpa [eR] using h)
    refine ⟨?_, fun h2 => ih.2 (by simp [eR] at h2; omega)⟩
    show (gt (eR z (t' :: r)) i).gap = _
    rw [ih.1, Nat.add_mod_right]
end
end Go.Sx
namespace Go.Sx
structure Turns {α : Type} [Inhabited α] (pl : GR → Nat) (A : List (At α)) : Prop where
  gap : ∀ i, i < A.length → (gt A i).gap = decide (i % 2 = 1)
  adj : ∀ i, i + 1 < A.length → (gt A (i + 1)).frm = (gt A i).til
  pt : ∀ i, i < A.length → (gt A i).gap = false → (gt A i).til = (gt A i).frm
  lt : ∀ i, i < A.length → (gt A i).gap = true → pl (gt A i).frm < pl (gt A i).til
section
variable {α : Type} [Inhabited α] {pl : GR → Nat} {A : List (At α)}
theorem Turns.odd (h : Turns pl A) {i : Nat} (hi : i < A.length) (ho : i % 2 = 1) : (gt A i).gap = true := by rw [h.gap i hi]; exact decide_eq_true ho
theorem Turns.even (h : Turns pl A) {i : Nat} (hi : i < A.length) (ho : i % 2 = 0) : (gt A i).gap = false := by rw [h.gap i hi]; exact decide_eq_false (by omega)
theorem Turns.le1 (h : Turns pl A) {i : Nat} (hi : i < A.length) : pl (gt A i).frm ≤ pl (gt A i).til := by
  cases hg : (gt A i).gap with
  | false => rw [h.pt i hi hg]; exact Nat.le_refl _
  | true => exact Nat.le_of_lt (h.lt i hi hg)
theorem Turns.mono (h : Turns pl A) {i : Nat} : ∀ (d : Nat), i + d + 1 < A.length → pl (gt A i).til ≤ pl (gt A (i + d + 1)).frm
  | 0, hd => by rw [h.adj i hd]; exact Nat.le_refl _
  | d + 1, hd => by
    have h1 := Turns.mono h (i := i) d (by omega)
    have h2 := h.le1 (by omega : i + d + 1 < A.length)
    have h3 := h.adj (i + d + 1) hd
    rw [show i + (d + 1) + 1 = i + d + 1 + 1 by omega, h3]
    omega
theorem Turns.mono' (h : Turns pl A) {i j : Nat} (hij : i < j) (hj : j < A.length) : pl (gt A i).til ≤ pl (gt A j).frm := by
  have := h.mono (i := i) (j - i - 1) (by omega)
  rwa [show i + (j - i - 1) + 1 = j by omega] at this
theorem ow : ∀ (d i : Nat), A.length - i ≤ d → i ≤ A.length → fH A i < (io A).length → ∃ j, i ≤ j ∧ j < A.length ∧ (gt A j).has = true ∧ fH A j = fH A i ∧ ∀ k, i ≤ k → k < j → (gt A k).has = false
  | d, i, hd, hi, hc => by
    by_cases e : i = A.length
    · subst e; rw [oL] at hc; omega
    · cases hh : (gt A i).has with
      | true => exact ⟨i, Nat.le_refl _, by omega, hh, rfl, fun k h1 h2 => by omega⟩
      | false =>
        have h1 := mM (by omega : i < A.length) hh
        match d with
        | 0 => omega
        | d + 1 =>
          obtain ⟨j, a1, a2, a3, a4, a5⟩ := ow d (i + 1) (by omega) (by omega) (by rw [h1]; exact hc)
          refine ⟨j, by omega, a2, a3, by rw [a4, h1], fun k k1 k2 => ?_⟩
          by_cases e : k = i
          · subst e; exact hh
          · exact a5 k (by omega) k2
theorem oo : ∀ (i : Nat), i ≤ A.length → 0 < fH A i → ∃ j, j < i ∧ (gt A j).has = true ∧ fH A j + 1 = fH A i ∧ ∀ k, j < k → k < i → (gt A k).has = false
  | 0, _, hc => by simp [fH] at hc
  | i + 1, hi, hc => by
    cases hh : (gt A i).has with
    | true => exact ⟨i, Nat.lt_succ_self _, hh, (kV (by omega) hh).symm, fun k h1 h2 => by omega⟩
    | false =>
      have h1 := mM (by omega : i < A.length) hh
      obtain ⟨j, a1, a2, a3, a4⟩ := oo i (by omega) (by rw [← h1]; exact hc)
      refine ⟨j, by omega, a2, by rw [a3, h1], fun k k1 k2 => ?_⟩
      by_cases e : k = i
      · subst e; exact hh
      · exact a4 k k1 (by omega)
variable (eqf : α → α → Bool) (same : α → α → GR → Bool) (red : α → GR → α)
def lst (out : List (U α)) : U α := gt out (out.length - 1)
theorem nO (out : List (U α)) (x : U α) : lst (out ++ [x]) = x := by
  unfold lst
  rw [List.length_append, List.length_singleton, Nat.add_sub_cancel, mA]
theorem qj {out : List (U α)} (h : 0 < out.length) (x : U α) : lst (out.set (out.length - 1) x) = x := by
  unfold lst
  rw [List.length_set]
  exact nj (by omega)
theorem kX {L out : List (U α)} {x : Nat} : befB L out x = true ↔ 0 < out.length ∧ (lst out).iv.hi = (gt L x).iv.lo ∧ (lst out).iv.lo ≠ (lst out).iv.hi := by
  unfold befB lst aQ
  simp only [Bool.and_eq_true, decide_eq_true_eq, Bool.not_eq_true', decide_eq_false_iff_not, ne_eq]
  constructor
  · rintro ⟨⟨h1, h2⟩, h3⟩; exact ⟨by omega, h2, h3⟩
  · rintro ⟨h1, h2, h3⟩; exact ⟨⟨by omega, h2⟩, h3⟩
theorem ls {out : List (U α)} {t : GR} : pe out t = true ↔ 0 < out.length ∧ (lst out).iv.hi = t ∧ (lst out).iv.openHi = false := by
  unfold pe lst
  simp only [Bool.and_eq_true, decide_eq_true_eq, Bool.not_eq_true']
  constructor
  · rintro ⟨⟨h1, h2⟩, h3⟩; exact ⟨by omega, h2, h3⟩
  · rintro ⟨h1, h2, h3⟩; exact ⟨⟨by omega, h2⟩, h3⟩
def InvE (pl : GR → Nat) (A : List (At α)) (out : List (U α)) (i : Nat) : Prop :=
  ((0 < i ∧ (gt A (i - 1)).has = true) → 0 < out.length ∧ (lst out).iv.hi = (gt A (i - 1)).til ∧ (lst out).iv.openHi = true ∧ pl (lst out).iv.lo < pl (lst out).iv.hi ∧ (lst out).f = (gt A (i - 1)).f) ∧
  (¬ (0 < i ∧ (gt A (i - 1)).has = true) → out.length = 0 ∨ (0 < i ∧ pl (lst out).iv.hi ≤ pl (gt A (i - 1)).frm))
def mgd (A : List (At α)) (i : Nat) : Prop := (gt A i).has = true ∧ 0 < i ∧ (gt A (i - 1)).has = true ∧ same (gt A (i - 1)).f (gt A i).f (gt A i).frm = true
def lft (A : List (At α)) (i : Nat) : Prop := i + 1 < A.length ∧ (gt A (i + 1)).has = true ∧ same (gt A (i + 1)).f (gt A i).f (gt A i).frm = true
def InvO (pl : GR → Nat) (A : List (At α)) (out : List (U α)) (i : Nat) : Prop :=
  (mgd same A i → 0 < out.length ∧ (lst out).iv.hi = (gt A i).frm ∧ (lst out).iv.openHi = false ∧ pl (lst out).iv.lo < pl (lst out).iv.hi ∧ (lst out).f = (gt A (i - 1)).f) ∧
  (¬ mgd same A i → ((gt A i).has = false ∨ lft same A i) → InvE pl A out i) ∧
  (¬ mgd same A i → (gt A i).has = true → ¬ lft same A i → 0 < out.length ∧ (lst out).iv.lo = (gt A i).frm ∧ (lst out).iv.hi = (gt A i).frm ∧ (lst out).iv.openHi = false ∧ (lst out).f = red (gt A i).f (gt A i).frm)
variable {eqf same red}
theorem InvE.le (hA : Turns pl A) {out : List (U α)} {i : Nat} (hi : i < A.length) (h : InvE pl A out i) : out.length = 0 ∨ pl (lst out).iv.hi ≤ pl (gt A i).frm := by
  by_cases c : 0 < i ∧ (gt A (i - 1)).has = true
  · have e := hA.adj (i - 1) (by omega)
    rw [show i - 1 + 1 = i by omega] at e
    rw [(h.1 c).2.1, e]; exact .inr (Nat.le_refl _)
  · rcases h.2 c with h1 | ⟨h0, h1⟩
    · exact .inl h1
    · have h2 := hA.mono' (by omega : i - 1 < i) hi
      have h3 := hA.le1 (by omega : i - 1 < A.length)
      exact .inr (by omega)
theorem InvO.le (hA : Turns pl A) {out : List (U α)} {i : Nat} (hi : i < A.length) (h : InvO same red pl A out i) : out.length = 0 ∨ pl (lst out).iv.hi ≤ pl (gt A i).frm := by
  by_cases m : mgd same A i
  · rw [(h.1 m).2.1]; exact .inr (Nat.le_refl _)
  · by_cases c : (gt A i).has = false ∨ lft same A i
    · exact (h.2.1 m c).le hA hi
    · have c1 : (gt A i).has = true := by cases hh : (gt A i).has with
        | true => rfl
        | false => exact absurd (.inl hh) c
      rw [(h.2.2 m c1 fun h => c (.inr h)).2.2.1]; exact .inr (Nat.le_refl _)
theorem pt_step (hA : Turns pl A) {out : List (U α)} {i : Nat} (hi : i < A.length) (he : i % 2 = 0) (hh : (gt A i).has = true) (h : InvE pl A out i) :
    jG eqf same red (io A) out (fH A i) = dT eqf same red A out i ∧ InvO same red pl A (dT eqf same red A out i) i := by
  have hg := hA.even hi he
  have hp := hA.pt i hi hg
  obtain ⟨hc, hx⟩ := ks hi hh
  have hv : (gt (io A) (fH A i)).iv = ⟨(gt A i).frm, (gt A i).frm, false, false⟩ := by rw [hx]; unfold toU; rw [hg, hp]
  have hf : (gt (io A) (fH A i)).f = (gt A i).f := by rw [hx]; rfl
  have hins : aQ ⟨(gt A i).frm, (gt A i).frm, false, false⟩ = true := decide_eq_true rfl
  have e0 : fH A (i + 1) = fH A i + 1 := kV hi hh
  have hnext : (decide (((fH A i + 1 : Nat) : Int) < (((io A).length : Nat) : Int)) && decide ((gt (io A) (fH A i + 1)).iv.lo = (gt A i).frm) && same (gt (io A) (fH A i + 1)).f (gt A i).f (gt A i).frm)
      = (decide (((i + 1 : Nat) : Int) < ((A.length : Nat) : Int)) && (gt A (i + 1)).has && same (gt A (i + 1)).f (gt A i).f (gt A i).frm) := by
    by_cases hn : i + 1 < A.length
    · rw [decide_eq_true (by omega : ((i + 1 : Nat) : Int) < ((A.length : Nat) : Int)), Bool.true_and]
      have hgn := hA.odd hn (by omega)
      cases hb : (gt A (i + 1)).has with
      | true =>
        obtain ⟨k1, k2⟩ := ks hn hb
        rw [e0] at k1 k2
        rw [decide_eq_true (by omega : ((fH A i + 1 : Nat) : Int) < (((io A).length : Nat) : Int)), k2]
        rw [show (toU (gt A (i + 1))).iv.lo = (gt A i).frm by unfold toU; rw [hA.adj i hn, hp], decide_eq_true rfl]
        rfl
      | false =>
        rw [Bool.false_and]
        by_cases hl : fH A i + 1 < (io A).length
        · have e1 := mM hn hb
          obtain ⟨j, j1, j2, j3, j4, j5⟩ := ow (A := A) A.length (i + 1 + 1) (by omega) (by omega) (by rw [e1, e0]; exact hl)
          obtain ⟨_, k2⟩ := ks j2 j3
          rw [j4, e1, e0] at k2
          have hne : (gt A j).frm ≠ (gt A i).frm := fun e => by
            have q1 := hA.mono' (by omega : i + 1 < j) j2
            have q2 := hA.lt (i + 1) hn hgn
            have q3 := hA.adj i hn
            rw [hp] at q3
            have q4 := congrArg pl q3
            have q5 := congrArg pl e
            omega
          rw [k2, show (toU (gt A j)).iv.lo = (gt A j).frm from rfl, decide_eq_false hne]
          simp
        · rw [decide_eq_false (by omega : ¬ ((fH A i + 1 : Nat) : Int) < (((io A).length : Nat) : Int))]
          rfl
    · rw [decide_eq_false (by omega : ¬ ((i + 1 : Nat) : Int) < ((A.length : Nat) : Int))]
      have e2 : i + 1 = A.length := by omega
      rw [e2, oL] at e0
      rw [decide_eq_false (by omega : ¬ ((fH A i + 1 : Nat) : Int) < (((io A).length : Nat) : Int))]
      rfl
  by_cases m : mgd same A i
  · obtain ⟨m1, m2, m3, m4⟩ := m
    obtain ⟨a1, a2, a3, a4, a5⟩ := h.1 ⟨m2, m3⟩
    have ea := hA.adj (i - 1) (by omega)
    rw [show i - 1 + 1 = i by omega] at ea
    have hb : befB (io A) out (fH A i) = true := kX.2 ⟨a1, by rw [a2, hv, ea], fun e => by rw [e] at a4; omega⟩
    have e1 : jG eqf same red (io A) out (fH A i) = out.set (out.length - 1) ⟨⟨(lst out).iv.lo, (lst out).iv.hi, (lst out).iv.openLo, false⟩, (lst out).f⟩ := by
      unfold jG
      rw [hb, cond_true, hv, hins, Bool.not_true, cond_false, hf]
      rw [show same (gt out (out.length - 1)).f (gt A i).f (gt A i).frm = true from by rw [show (gt out (out.length - 1)).f = (gt A (i - 1)).f from a5]; exact m4, cond_true]
      rfl
    have e2 : dT eqf same red A out i = out.set (out.length - 1) ⟨⟨(lst out).iv.lo, (lst out).iv.hi, (lst out).iv.openLo, false⟩, (lst out).f⟩ := by
      unfold dT
      rw [hh, Bool.not_true, cond_false, hg, cond_false, decide_eq_true (by omega : ((i : Nat) : Int) > 0), m3, m4, Bool.and_self, Bool.and_self, cond_true]
      rfl
    refine ⟨e1.trans e2.symm, ?_⟩
    rw [e2]
    refine ⟨fun _ => ?_, fun k => absurd ⟨m1, m2, m3, m4⟩ k, fun k => absurd ⟨m1, m2, m3, m4⟩ k⟩
    rw [qj a1, List.length_set]
    exact ⟨a1, by rw [ea]; exact a2, rfl, a4, a5⟩
  · 
    have hmb : ((decide (((i : Nat) : Int) > 0) && (gt A (i - 1)).has) && same (gt A (i - 1)).f (gt A i).f (gt A i).frm) = false := by
      cases hq : ((decide (((i : Nat) : Int) > 0) && (gt A (i - 1)).has) && same (gt A (i - 1)).f (gt A i).f (gt A i).frm) with
      | false => rfl
      | true =>
        simp only [Bool.and_eq_true, decide_eq_true_eq] at hq
        exact absurd ⟨hh, by omega, hq.1.2, hq.2⟩ m
    have e1 : jG eqf same red (io A) out (fH A i) = mm same red (io A) out (fH A i) := by
      unfold jG
      rw [hv, hins, Bool.not_true, cond_false, cond_false, hf]
      cases hb : befB (io A) out (fH A i) with
      | false => rfl
      | true =>
        rw [cond_true]
        obtain ⟨b1, b2, b3⟩ := kX.1 hb
        rw [hv] at b2
        have hs : same (gt out (out.length - 1)).f (gt A i).f (gt A i).frm = false := by
          by_cases c : 0 < i ∧ (gt A (i - 1)).has = true
          · rw [show (gt out (out.length - 1)).f = (gt A (i - 1)).f from (h.1 c).2.2.2.2]
            cases hs : same (gt A (i - 1)).f (gt A i).f (gt A i).frm with
            | false => rfl
            | true => exact absurd ⟨hh, c.1, c.2, hs⟩ m
          · rcases h.2 c with h1 | ⟨h0, h1⟩
            · omega
            · have q1 := hA.lt (i - 1) (by omega) (hA.odd (by omega) (by omega))
              have q2 := hA.adj (i - 1) (by omega)
              rw [show i - 1 + 1 = i by omega] at q2
              have q3 : pl (lst out).iv.hi = pl (gt A i).frm := congrArg pl b2
              rw [q2] at q3
              omega
        rw [hs, cond_false]
    have e2 : dT eqf same red A out i = mm same red (io A) out (fH A i) := by
      unfold dT mm
      rw [hh, Bool.not_true, cond_false, hg, cond_false, hmb, cond_false, hv, hf]
      rw [hnext, hp]
    refine ⟨e1.trans e2.symm, ?_⟩
    rw [e2]
    refine ⟨fun k => absurd k m, fun _ hl => ?_, fun _ _ hl => ?_⟩
    · have hl : lft same A i := hl.elim (fun e => by rw [hh] at e; cases e) id
      have e3 : mm same red (io A) out (fH A i) = out := by
        unfold mm
        rw [hv, hf, hnext, decide_eq_true (by have := hl.1; omega : ((i + 1 : Nat) : Int) < ((A.length : Nat) : Int)), hl.2.1, hl.2.2]
        rfl
      rw [e3]; exact h
    · have hlb : (decide (((i + 1 : Nat) : Int) < ((A.length : Nat) : Int)) && (gt A (i + 1)).has && same (gt A (i + 1)).f (gt A i).f (gt A i).frm) = false := by
        cases hq : (decide (((i + 1 : Nat) : Int) < ((A.length : Nat) : Int)) && (gt A (i + 1)).has && same (gt A (i + 1)).f (gt A i).f (gt A i).frm) with
        | false => rfl
        | true =>
          simp only [Bool.and_eq_true, decide_eq_true_eq] at hq
          exact absurd ⟨by omega, hq.1.2, hq.2⟩ hl
      have e3 : mm same red (io A) out (fH A i) = out ++ [⟨⟨(gt A i).frm, (gt A i).frm, false, false⟩, red (gt A i).f (gt A i).frm⟩] := by
        unfold mm
        rw [hv, hf, hnext, hlb]
        rfl
      rw [e3, nO]
      exact ⟨by simp, rfl, rfl, rfl, rfl⟩
theorem gap_step (heq : ∀ a b, eqf a b = true → a = b) (hA : Turns pl A) {out : List (U α)} {i : Nat} (hi : i + 1 < A.length) (he : i % 2 = 0) (hh : (gt A (i + 1)).has = true) (h : InvO same red pl A out i) :
    jG eqf same red (io A) out (fH A (i + 1)) = dT eqf same red A out (i + 1) ∧ InvE pl A (dT eqf same red A out (i + 1)) (i + 2) := by
  have hg := hA.odd hi (by omega)
  have hlt := hA.lt (i + 1) hi hg
  have hgp := hA.even (by omega : i < A.length) he
  have hpp := hA.pt i (by omega) hgp
  have ea := hA.adj i hi
  rw [hpp] at ea
  obtain ⟨hc, hx⟩ := ks hi hh
  have hv : (gt (io A) (fH A (i + 1))).iv = ⟨(gt A i).frm, (gt A (i + 1)).til, true, true⟩ := by rw [hx]; unfold toU; rw [hg, ea]
  have hf : (gt (io A) (fH A (i + 1))).f = (gt A (i + 1)).f := by rw [hx]; rfl
  have hins : aQ ⟨(gt A i).frm, (gt A (i + 1)).til, true, true⟩ = false := decide_eq_false fun e => by
    have e : (gt A i).frm = (gt A (i + 1)).til := e
    rw [ea, e] at hlt; omega
  rw [ea] at hlt
  have happ : ∀ b : Bool, InvE pl A (out ++ [⟨⟨(gt A i).frm, (gt A (i + 1)).til, b, true⟩, (gt A (i + 1)).f⟩]) (i + 2) := fun b => by
    refine ⟨fun _ => ?_, fun k => absurd ⟨by omega, hh⟩ k⟩
    rw [nO]
    exact ⟨by simp, rfl, rfl, hlt, rfl⟩
  have hngap : ∀ b : Bool, ((((decide (((fH A (i + 1) : Nat) : Int) > 0)) && (aQ ((gt (io A) (fH A (i + 1) - 1)).iv))) && (decide (((gt (io A) (fH A (i + 1) - 1)).iv).lo = (gt A i).frm))) && (!(pe out (gt A i).frm))) = b →
      lR (io A) out (fH A (i + 1)) = out ++ [⟨⟨(gt A i).frm, (gt A (i + 1)).til, !b, true⟩, (gt A (i + 1)).f⟩] := fun b hb => by
    unfold lR
    rw [hv, hb, hf, hx]
    cases b
    · rw [cond_false]
      unfold toU
      rw [hg, ea]
      rfl
    · rfl
  have hi2 : (decide (((i + 1 : Nat) : Int) ≥ 2)) = decide (0 < i) := decide_eq_decide.2 (by omega)
  by_cases m : mgd same A i
  · obtain ⟨m1, m2, m3, m4⟩ := m
    obtain ⟨a1, a2, a3, a4, a5⟩ := h.1 ⟨m1, m2, m3, m4⟩
    have hb : befB (io A) out (fH A (i + 1)) = true := kX.2 ⟨a1, by rw [a2, hv], fun e => by rw [e] at a4; omega⟩
    cases hq : eqf (gt A (i - 1)).f (gt A (i + 1)).f with
    | true =>
      have e1 : jG eqf same red (io A) out (fH A (i + 1)) = out.set (out.length - 1) ⟨⟨(lst out).iv.lo, (gt A (i + 1)).til, (lst out).iv.openLo, true⟩, (lst out).f⟩ := by
        unfold jG
        rw [hb, cond_true, hv, hins, Bool.not_false, cond_true, hf]
        rw [show (gt out (out.length - 1)).iv.openHi = false from a3, show (gt out (out.length - 1)).f = (gt A (i - 1)).f from a5, hq, Bool.not_false, Bool.and_self, cond_true]
        rw [show (gt A (i - 1)).f = (lst out).f from a5.symm]
        rfl
      have e2 : dT eqf same red A out (i + 1) = out.set (out.length - 1) ⟨⟨(lst out).iv.lo, (gt A (i + 1)).til, (lst out).iv.openLo, true⟩, (lst out).f⟩ := by
        unfold dT
        rw [hh, Bool.not_true, cond_false, hg, cond_true, hi2, decide_eq_true m2]
        rw [show i + 1 - 2 = i - 1 by omega, Nat.add_sub_cancel, m3, m1, ea, m4, hq]
        rfl
      refine ⟨e1.trans e2.symm, ?_⟩
      rw [e2]
      refine ⟨fun _ => ?_, fun k => absurd ⟨by omega, hh⟩ k⟩
      rw [qj a1, List.length_set]
      rw [a2] at a4
      exact ⟨a1, rfl, rfl, Nat.lt_trans a4 hlt, a5.trans (heq _ _ hq)⟩
    | false =>
      have e1 : jG eqf same red (io A) out (fH A (i + 1)) = lR (io A) out (fH A (i + 1)) := by
        unfold jG
        rw [hb, cond_true, hv, hins, Bool.not_false, cond_true, hf]
        rw [show (gt out (out.length - 1)).f = (gt A (i - 1)).f from a5, hq, Bool.and_false, cond_false]
      have e2 := hngap false (by rw [ls.2 ⟨a1, a2, a3⟩, Bool.not_true, Bool.and_false])
      have e3 : dT eqf same red A out (i + 1) = out ++ [⟨⟨(gt A i).frm, (gt A (i + 1)).til, !false, true⟩, (gt A (i + 1)).f⟩] := by
        unfold dT
        rw [hh, Bool.not_true, cond_false, hg, cond_true, hi2, decide_eq_true m2]
        rw [show i + 1 - 2 = i - 1 by omega, Nat.add_sub_cancel, m3, m1, ea, m4, hq]
        simp
      refine ⟨(e1.trans e2).trans e3.symm, ?_⟩
      rw [e3]; exact happ _
  · have hmb : ((((decide (((i + 1 : Nat) : Int) ≥ 2)) && (gt A (i + 1 - 2)).has) && (gt A (i + 1 - 1)).has) && same (gt A (i + 1 - 2)).f (gt A (i + 1 - 1)).f (gt A (i + 1)).frm) = false := by
      cases hq : ((((decide (((i + 1 : Nat) : Int) ≥ 2)) && (gt A (i + 1 - 2)).has) && (gt A (i + 1 - 1)).has) && same (gt A (i + 1 - 2)).f (gt A (i + 1 - 1)).f (gt A (i + 1)).frm) with
      | false => rfl
      | true =>
        rw [hi2, show i + 1 - 2 = i - 1 by omega, Nat.add_sub_cancel, ea] at hq
        simp only [Bool.and_eq_true, decide_eq_true_eq] at hq
        exact absurd ⟨hq.1.2, hq.1.1.1, hq.1.1.2, hq.2⟩ m
    have hmb2 : (gt A (i + 1 - 1)).has = true → (((decide (((i + 1 : Nat) : Int) ≥ 2)) && (gt A (i + 1 - 2)).has) && same (gt A (i + 1 - 2)).f (gt A (i + 1 - 1)).f (gt A (i + 1)).frm) = false := fun hp => by
      rw [hp, Bool.and_true] at hmb
      exact hmb
    have e3 : dT eqf same red A out (i + 1) = out ++ [⟨⟨(gt A i).frm, (gt A (i + 1)).til, !((gt A i).has && same (gt A (i + 1)).f (gt A i).f (gt A i).frm), true⟩, (gt A (i + 1)).f⟩] := by
      unfold dT
      rw [hh, Bool.not_true, cond_false, hg, cond_true, hmb, Bool.false_and, cond_false]
      cases hp : (gt A (i + 1 - 1)).has with
      | false =>
        rw [show (gt A i).has = false from hp, ea]
        simp
      | true =>
        rw [hmb2 hp, show (gt A i).has = true from hp, ea]
        simp
    have e1 : jG eqf same red (io A) out (fH A (i + 1)) = lR (io A) out (fH A (i + 1)) := by
      unfold jG
      rw [hv, hins, Bool.not_false, cond_true, cond_true, hf]
      cases hb : befB (io A) out (fH A (i + 1)) with
      | false => rfl
      | true =>
        rw [cond_true]
        obtain ⟨b1, b2, b3⟩ := kX.1 hb
        rw [hv] at b2
        have hs : (gt out (out.length - 1)).iv.openHi = true := by
          by_cases c : (gt A i).has = false ∨ lft same A i
          · have h2 := h.2.1 m c
            by_cases c2 : 0 < i ∧ (gt A (i - 1)).has = true
            · exact (h2.1 c2).2.2.1
            · rcases h2.2 c2 with h1 | ⟨h0, h1⟩
              · omega
              · have q1 := hA.lt (i - 1) (by omega) (hA.odd (by omega) (by omega))
                have q2 := hA.adj (i - 1) (by omega)
                rw [show i - 1 + 1 = i by omega] at q2
                have q3 : pl (lst out).iv.hi = pl (gt A i).frm := congrArg pl b2
                rw [q2] at q3
                omega
          · have c1 : (gt A i).has = true := by cases hh : (gt A i).has with
              | true => rfl
              | false => exact absurd (.inl hh) c
            obtain ⟨k1, k2, k3, k4, _⟩ := h.2.2 m c1 fun h => c (.inr h)
            exact absurd (k2.trans k3.symm) b3
        rw [hs, Bool.not_true, Bool.false_and, cond_false]
    have hcond : ((((decide (((fH A (i + 1) : Nat) : Int) > 0)) && (aQ ((gt (io A) (fH A (i + 1) - 1)).iv))) && (decide (((gt (io A) (fH A (i + 1) - 1)).iv).lo = (gt A i).frm))) && (!(pe out (gt A i).frm))) = ((gt A i).has && same (gt A (i + 1)).f (gt A i).f (gt A i).frm) := by
      cases hp : (gt A i).has with
      | true =>
        obtain ⟨_, y2⟩ := ks (by omega : i < A.length) hp
        have y3 := kV (by omega : i < A.length) hp
        rw [y3, Nat.add_sub_cancel, decide_eq_true (by omega : ((fH A i + 1 : Nat) : Int) > 0), y2]
        rw [show (toU (gt A i)).iv = ⟨(gt A i).frm, (gt A i).frm, false, false⟩ by unfold toU; rw [hgp, hpp]]
        rw [show aQ ⟨(gt A i).frm, (gt A i).frm, false, false⟩ = true from decide_eq_true rfl, decide_eq_true rfl, Bool.and_self, Bool.and_self, Bool.true_and, Bool.true_and]
        by_cases l : lft same A i
        · rw [l.2.2]
          have h2 := h.2.1 m (.inr l)
          cases hb : pe out (gt A i).frm with
          | false => rfl
          | true =>
            obtain ⟨b1, b2, b3⟩ := ls.1 hb
            by_cases c2 : 0 < i ∧ (gt A (i - 1)).has = true
            · rw [(h2.1 c2).2.2.1] at b3; cases b3
            · rcases h2.2 c2 with h1 | ⟨h0, h1⟩
              · omega
              · have q1 := hA.lt (i - 1) (by omega) (hA.odd (by omega) (by omega))
                have q2 := hA.adj (i - 1) (by omega)
                rw [show i - 1 + 1 = i by omega] at q2
                have q3 : pl (lst out).iv.hi = pl (gt A i).frm := congrArg pl b2
                rw [q2] at q3
                omega
        · obtain ⟨k1, k2, k3, k4, _⟩ := h.2.2 m hp l
          rw [ls.2 ⟨k1, k3, k4⟩]
          cases hs : same (gt A (i + 1)).f (gt A i).f (gt A i).frm with
          | false => rfl
          | true => exact absurd ⟨hi, hh, hs⟩ l
      | false =>
        rw [Bool.false_and]
        by_cases hz : 0 < fH A (i + 1)
        · obtain ⟨j, j1, j2, j3, j4⟩ := oo (A := A) (i + 1) (by omega) hz
          have hji : j < i := by
            rcases Nat.lt_or_ge j i with q | q
            · exact q
            · obtain rfl : j = i := by omega
              rw [hp] at j2; cases j2
          obtain ⟨_, y2⟩ := ks (by omega : j < A.length) j2
          rw [show fH A (i + 1) - 1 = fH A j by omega, y2]
          have hfalse : (aQ (toU (gt A j)).iv && decide ((toU (gt A j)).iv.lo = (gt A i).frm)) = false := by
            cases hgj : (gt A j).gap with
            | true =>
              have q1 := hA.lt j (by omega) hgj
              rw [show aQ (toU (gt A j)).iv = false from decide_eq_false fun e => by
                have e : (gt A j).frm = (gt A j).til := e
                rw [e] at q1; omega]
              rfl
            | false =>
              have hje : j % 2 = 0 := by
                have := hA.gap j (by omega)
                rw [hgj] at this
                have := of_decide_eq_false this.symm
                omega
              have q1 := hA.lt (j + 1) (by omega) (hA.odd (by omega) (by omega))
              have q2 := hA.adj j (by omega)
              have q3 := hA.mono' (by omega : j + 1 < i) (by omega)
              have q4 := hA.le1 (by omega : j < A.length)
              rw [q2] at q1
              rw [decide_eq_false fun e => ?_, Bool.and_false]
              have e : (gt A j).frm = (gt A i).frm := e
              rw [e] at q4
              omega
          rw [Bool.and_assoc (decide _), hfalse, Bool.and_false]
          rfl
        · rw [decide_eq_false (by omega : ¬ ((fH A (i + 1) : Nat) : Int) > 0)]
          rfl
    have e2 := hngap _ hcond
    refine ⟨(e1.trans e2).trans e3.symm, ?_⟩
    rw [e3]; exact happ _
theorem qm (heq : ∀ a b, eqf a b = true → a = b) (hA : Turns pl A) : ∀ i, i ≤ A.length → hQ (jG eqf same red (io A)) [] (fH A i) = hQ (dT eqf same red A) [] i ∧
      (i % 2 = 0 → InvE pl A (hQ (dT eqf same red A) [] i) i) ∧ (i % 2 = 1 → InvO same red pl A (hQ (dT eqf same red A) [] i) (i - 1)) := by
  have no : ∀ (out : List (U α)) i, (gt A i).has = false → dT eqf same red A out i = out := fun out i h => by unfold dT; rw [h]; rfl
  intro i
  induction i with
  | zero => intro _; exact ⟨rfl, fun _ => ⟨fun h => absurd h.1 (Nat.lt_irrefl 0), fun _ => .inl rfl⟩, fun h => by cases h⟩
  | succ i ih =>
    intro hi
    obtain ⟨h1, h2, h3⟩ := ih (by omega)
    show _ = dT eqf same red A (hQ (dT eqf same red A) [] i) i ∧ (_ → InvE pl A (dT eqf same red A (hQ (dT eqf same red A) [] i) i) (i + 1)) ∧ (_ → InvO same red pl A (dT eqf same red A (hQ (dT eqf same red A) [] i) i) (i + 1 - 1))
    cases hh : (gt A i).has with
    | false =>
      rw [mM hi hh, no _ _ hh]
      refine ⟨h1, fun he => ?_, fun ho => ?_⟩
      · have h4 := (h3 (by omega)).le hA (by omega)
        refine ⟨fun k => absurd k.2 (by rw [Nat.add_sub_cancel, hh]; decide), fun _ => ?_⟩
        rcases h4 with h4 | h4
        · exact .inl h4
        · refine .inr ⟨by omega, ?_⟩
          have q1 := hA.adj (i - 1) (by omega)
          have q2 := hA.pt (i - 1) (by omega) (hA.even (by omega) (by omega))
          rw [show i - 1 + 1 = i by omega, q2] at q1
          rw [Nat.add_sub_cancel, q1]
          exact h4
      · have h4 := h2 (by omega)
        rw [Nat.add_sub_cancel]
        exact ⟨fun k => absurd k.1 (by rw [hh]; decide), fun _ _ => h4, fun _ k => absurd k (by rw [hh]; decide)⟩
    | true =>
      rw [kV hi hh]
      show jG eqf same red (io A) (hQ (jG eqf same red (io A)) [] (fH A i)) (fH A i) = _ ∧ _
      rw [h1]
      rcases Nat.mod_two_eq_zero_or_one i with he | ho
      · obtain ⟨k1, k2⟩ := pt_step (eqf := eqf) (same := same) (red := red) hA hi he hh (h2 he)
        exact ⟨k1, fun q => by omega, fun _ => by rw [Nat.add_sub_cancel]; exact k2⟩
      · obtain ⟨i, rfl⟩ : ∃ j, i = j + 1 := ⟨i - 1, by omega⟩
        have h4 := h3 ho
        rw [Nat.add_sub_cancel] at h4
        obtain ⟨k1, k2⟩ := gap_step (eqf := eqf) (same := same) (red := red) heq hA hi (by omega) hh h4
        exact ⟨k1, fun _ => k2, fun q => by omega⟩
end
end Go.Sx
