/- A part of the proof that the law PiecesRefines answers true at every input and leaves its arguments as they were. -/
import Derived.Test.YtnkaneggnjallaaGreatDoorProg
import Derived.Test.YtnkaneggnjallaaGreatDoorM3
import Derived.Test.YtnkaneggnjallaaGreatDoorQ2
import Derived.Test.YtnkaneggnjallaaGreatDoorQ3
set_option linter.unusedVariables false
set_option linter.unusedSimpArgs false
namespace Go.Sx
theorem qp (l : List (U Qd)) : a6 l = l.map fun u => ⟨u.iv, az u.f.c0⟩ := by
  unfold a6
  have := jZ (R := List (U Int)) (f := fun (o : List (U Int)) (u : U Qd) => o ++ [⟨u.iv, az u.f.c0⟩]) l (B := fun s => cq l s.1 s.2)
    (fun o i hi => by
      show cq l o i = _
      unfold cq
      rw [decide_eq_true (by omega : ((i : Nat) : Int) < ((l.length : Nat) : Int))]
      rfl)
    (fun o => by
      show cq l o l.length = _
      unfold cq
      rw [decide_eq_false (by omega : ¬ ((l.length : Nat) : Int) < ((l.length : Nat) : Int))]
      rfl) l [] [] (l.length - 0 + 1) rfl (by omega)
  refine (ew this).trans ?_
  unfold gu
  rw [lV, List.nil_append]
theorem nf (a b : Int) : cA a b = true ↔ a = b := by
  unfold cA
  simp
theorem nc (l : List Stp) : (∀ x ∈ a6 (aw l), Wv x.iv) ∧ (a6 (aw l)).Pairwise fun a b => Dj a.iv b.iv := by
  obtain ⟨h1, h2⟩ := kW l
  rw [qp]
  exact ⟨fun x hx => by obtain ⟨y, hy, rfl⟩ := List.mem_map.1 hx; exact (h1 y hy).1, by rw [List.pairwise_map]; exact h2⟩
end Go.Sx
namespace Go.Sx
theorem nq (l : List (U Qd)) : bD l [] = iG (l.map (·.iv)) := by
  unfold bD
  have := jZ (R := List GR) (f := fun (o : List GR) (u : U Qd) => ak (ak o u.iv.lo) u.iv.hi) l (B := fun s => cc l [] s.1 s.2)
    (fun o i hi => by
      show cc l [] o i = _
      unfold cc
      rw [decide_eq_true (by omega : ((i : Nat) : Int) < ((l.length : Nat) : Int))]
      rfl)
    (fun o => by
      show cc l [] o l.length = _
      unfold cc
      rw [decide_eq_false (by omega : ¬ ((l.length : Nat) : Int) < ((l.length : Nat) : Int))]
      rfl) l [] [] (l.length - 0 + 1) rfl (by omega)
  refine (ew this).trans ?_
  unfold fI iG
  rw [List.foldl_map]
theorem lY (l : List (U Qd)) (ts : List GR) : bO l ts = f5 (default : Qd) l ts := by
  unfold bO f5
  have h1 := kd (R := List (At Qd)) (z := (default : Qd)) (ts := ts) (B := fun s => br l ts s.1 s.2)
    (fun o i hi => by
      show br l ts o i = _
      unfold br
      rw [decide_eq_true (by omega : ((i : Nat) : Int) < ((ts.length : Nat) : Int)), decide_eq_true (by omega : ((i + 1 : Nat) : Int) < ((ts.length : Nat) : Int))]
      rfl)
    (fun o i hi => by
      show br l ts o i = _
      unfold br
      rw [decide_eq_true (by omega : ((i : Nat) : Int) < ((ts.length : Nat) : Int)), decide_eq_false (by omega : ¬ ((i + 1 : Nat) : Int) < ((ts.length : Nat) : Int))]
      rfl)
    (fun o => by
      show br l ts o ts.length = _
      unfold br
      rw [decide_eq_false (by omega : ¬ ((ts.length : Nat) : Int) < ((ts.length : Nat) : Int))]
      rfl) ts [] [] (ts.length - 0 + 1) rfl (by omega)
  refine (ew h1).trans ?_
  show eK l ts ([] ++ eR (default : Qd) ts) ts.length = _
  rw [List.nil_append]
  generalize eR (default : Qd) ts = o0
  unfold eK
  have h2 := mr (R := List (At Qd)) (g := jK l) (n := o0.length) (B := fun s => bX l ts o0 ts.length s.1 s.2)
    (fun o i hi hn => by
      show bX l ts o0 ts.length i o = _
      unfold bX
      rw [decide_eq_true (by omega : ((i : Nat) : Int) < ((o.length : Nat) : Int)), cond_true]
      have h3 := kv (R := List (At Qd)) (f := fun o u => o.set i (j7 u (gt o i))) l (I := fun o => i < o.length) (B := fun s => bP l ts o0 ts.length i o s.1 s.2)
        (fun o x h => by simpa using h)
        (fun o k ho hk => by
          show bP l ts o0 ts.length i _ k o = _
          unfold bP j7
          rw [decide_eq_true (by omega : ((k : Nat) : Int) < ((l.length : Nat) : Int)), cond_true]
          cases cm (gt l k).iv (gt o i).frm (gt o i).til (gt o i).gap
          · rw [cond_false, cond_false, pM ho]
          · rfl)
        (fun o' => by
          show bP l ts o0 ts.length i _ l.length o' = _
          unfold bP
          rw [decide_eq_false (by omega : ¬ ((l.length : Nat) : Int) < ((l.length : Nat) : Int))]
          rfl) l [] o (l.length - 0 + 1) hi rfl (by omega)
      refine (ew h3).trans ?_
      show eJ l ts o0 ts.length i _ l.length _ = _
      unfold eJ
      rw [mC i l o hi])
    (fun o hn => by
      show bX l ts o0 ts.length o0.length o = _
      unfold bX
      rw [hn, decide_eq_false (by omega : ¬ ((o0.length : Nat) : Int) < ((o0.length : Nat) : Int))]
      rfl) o0 [] (o0.length - 0 + 1) (by simp) (by omega)
  refine (ew h2).trans ?_
  rfl
theorem lD (l : List (At Qd)) (out : List (U Qd)) (i : Nat) (hi : i < l.length) :
    a7 l out i = .go (dT cg aK aG l out i, i + 1) := by
  unfold a7 dT
  rw [decide_eq_true (by omega : ((i : Nat) : Int) < ((l.length : Nat) : Int)), cond_true]
  cases (gt l i).has <;> cases (gt l i).gap <;> simp only [Bool.not_true, Bool.not_false, cond_true, cond_false]
  · repeat' (first | refine mK ?_ ?_ | rfl)
  · repeat' (first | refine mK ?_ ?_ | rfl)
theorem ka (l : List (At Qd)) : cC l = hQ (dT cg aK aG l) [] l.length := by
  unfold cC
  refine (ew (lp (o := ([] : List (U Qd))) (st := dT cg aK aG l) (n := l.length) (B := fun s => a7 l s.1 s.2)
    (fun o i hi => lD l o i hi) (fun o => by
      show a7 l o _ = _
      unfold a7
      rw [decide_eq_false (by omega : ¬ ((l.length : Nat) : Int) < ((l.length : Nat) : Int))]
      rfl) _ 0 (Nat.zero_le _) (by omega))).trans ?_
  rfl
end Go.Sx
