/- A part of the proof that the law PiecesOverlaps answers true at every input and leaves its arguments as they were. -/
import Derived.Test.YtnkaneggnjallaaGreatDoorM2
import Derived.Test.YtnkaneggnjallaaGreatDoorGarith
set_option linter.unusedVariables false
set_option linter.unusedSimpArgs false
namespace Go.Sx
theorem foldl_cons {α β : Type} (g : α → β) : ∀ (l : List α) (o : List β), l.foldl (fun o i => g i :: o) o = (l.map g).reverse ++ o
  | [], o => rfl
  | x :: l, o => by rw [List.foldl_cons, foldl_cons g l]; simp
theorem kP {α β : Type} (g : α → β) : ∀ (l : List α) (o : List β), l.foldl (fun o i => o ++ [g i]) o = o ++ l.map g
  | [], o => by simp
  | x :: l, o => by rw [List.foldl_cons, kP g l]; simp
theorem kX (he : ∀ f, aZ f f = true) (l : List (U Int)) : bT l l = true := by
  unfold bT
  rw [show ((((l.length : Nat) : Int)) != (((l.length : Nat) : Int))) = false by simp, cond_false]
  refine (eo (kV (n := l.length) (r := false) (bad := fun i => ((!(decide ((gt l i).iv = (gt l i).iv))) || (!(aZ ((gt l i).f) ((gt l i).f))))) (fun i hi => by
    unfold ce
    rw [decide_eq_true (by omega : ((i : Nat) : Int) < ((l.length : Nat) : Int)), cond_true]) (by
    unfold ce
    rw [decide_eq_false (by omega : ¬ ((l.length : Nat) : Int) < ((l.length : Nat) : Int))]
    rfl) (l.length - 0 + 1) 0 (Nat.zero_le _) (by omega) fun i _ _ => ?_)).trans rfl
  rw [he, decide_eq_true rfl]
  rfl
theorem kn {α : Type} [Inhabited α] {z : α} {u : List (U α)} {E : List GR} {i : Nat} (h : i < (fM z u E).length) : gt (fM z u E) i = gP u (gt (eA z E) i) := by
  have h2 : i < (eA z E).length := by simpa [fM] using h
  have : gt ((eA z E).map (gP u)) i = gP u (gt (eA z E) i) := by
    rw [jh (by simpa using h2), jh h2, List.getElem_map]
  exact this
theorem mr {α : Type} [Inhabited α] {z : α} {u : List (U α)} {E : List GR} (hE : Ts E) : Turns tk (fM z u E) := by
  have hl : (fM z u E).length = (eA z E).length := by unfold fM; rw [List.length_map]
  have ok : ∀ {i}, i < (fM z u E).length → _ := fun {i} hi => pq (z := z) hE (a := gt (eA z E) i) (by rw [jh (hl ▸ hi)]; exact List.getElem_mem _)
  refine ⟨fun i hi => ?_, fun i hi => ?_, fun i hi hg => ?_, fun i hi hg => ?_⟩
  · rw [kn hi, (er u _).2.1]; exact (lL i (hl ▸ hi)).1
  · rw [kn hi, kn (by omega : i < (fM z u E).length), (er u _).1, (er u _).2.2]
    exact (lL i (by omega)).2 (hl ▸ hi)
  · rw [kn hi] at hg ⊢
    rw [(er u _).2.1] at hg
    rw [(er u _).1, (er u _).2.2]
    exact (ok hi).2.2.1 hg
  · rw [kn hi] at hg ⊢
    rw [(er u _).2.1] at hg
    rw [(er u _).1, (er u _).2.2]
    exact (ok hi).2.2.2 hg
theorem ld (heq : ∀ a b, aZ a b = true → a = b) {d u : List (U Int)} (hp : d.Perm u) (hW : ∀ x ∈ u, Wv x.iv) (hD : u.Pairwise fun a b => Dj a.iv b.iv) : ay d = (br u, 0) := by
  have hWd : ∀ x ∈ d, Wv x.iv := fun x hx => hW x (hp.mem_iff.1 hx)
  obtain ⟨s1, s2⟩ := kH (fun x hx => (hWd x hx).1)
  have hps := s1.trans hp
  have hE := (ly (l := u.map (·.iv)) (fun i hi => by obtain ⟨x, hx, rfl⟩ := List.mem_map.1 hi; exact (hW x hx).1)).1
  rw [lc s1.length_eq fun i h0 h1 => (ns hW hps s2).2 hD i h0 (by rw [s1.length_eq]; exact h1), oE]
  have e1 : ae (aa d) = gg (fM 0 u (ma (u.map (·.iv)))) := by
    rw [nF]; exact atoms_eq hW hD hps s2
  unfold br
  rw [e1, built_eq, nh, mn, loops_eq heq (mr hE)]
theorem ky {u : List (U Int)} (hW : ∀ x ∈ u, Wv x.iv) (hD : ¬ u.Pairwise fun a b => Dj a.iv b.iv) : ay u = ([], 11) := by
  obtain ⟨s1, s2⟩ := kH (fun x hx => (hW x hx).1)
  refine kz s1.length_eq ?_
  refine Classical.byContradiction fun hn => hD ((ns hW s1 s2).1 fun i h0 h1 => ?_)
  cases hb : bu (gt (aa u) (i - 1)).iv (gt (aa u) i).iv with
  | true => rfl
  | false => exact absurd ⟨i, h0, by rw [← s1.length_eq]; exact h1, hb⟩ hn
end Go.Sx
namespace Go.Sx
def ival (a : GI) : Int := bif a.neg then -(a.mag : Int) else (a.mag : Int)
def IOk (a : GI) : Prop := a.mag = 0 → a.neg = false
def z0 : GI := ⟨false, 0⟩
def qden (x : GQ) : Nat := if x.den = z0 then 1 else x.den.mag
def QOk (x : GQ) : Prop := IOk x.num ∧ (x.den = z0 ∨ (x.den.neg = false ∧ 1 < x.den.mag)) ∧ Nat.Coprime x.num.mag (qden x)
def mW (x : GQ) : Rat := (ival x.num : Rat) / (qden x : Rat)
theorem QOk.pos {x : GQ} (h : QOk x) : 0 < qden x := by
  unfold qden
  split
  · decide
  · rename_i e
    rcases h.2.1 with h1 | ⟨_, h1⟩
    · exact absurd h1 e
    · omega
end Go.Sx
namespace Go.Sx
def zQ : GQ := ⟨⟨false, 0⟩, ⟨false, 0⟩⟩
def lv (t : GR) (q : Qd) : Rat × Rat :=
  if t.r = zQ then (mW q.c0 + mW t.p * (mW q.c1 + mW t.p * mW q.c2), 0)
  else (mW q.c0 + mW q.c2 * (mW t.r - mW t.p * mW t.p), mW q.c1 + (mW q.c2 + mW q.c2) * mW t.p)
end Go.Sx
