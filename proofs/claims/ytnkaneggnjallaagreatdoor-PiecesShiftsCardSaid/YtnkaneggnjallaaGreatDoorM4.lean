/- A part of the proof that the law PiecesShifts answers true at every input and leaves its arguments as they were. -/
import Derived.Test.YtnkaneggnjallaaGreatDoorProg
import Derived.Test.YtnkaneggnjallaaGreatDoorM3
import Derived.Test.YtnkaneggnjallaaGreatDoorQ2
import Derived.Test.YtnkaneggnjallaaGreatDoorQ3
set_option linter.unusedVariables false
set_option linter.unusedSimpArgs false
namespace Go.Sx
theorem oP {β : Type} [Inhabited β] {A : List β} {i : Nat} (h : i < A.length) : A.take (i + 1) = A.take i ++ [gt A i] := by
  rw [f7 h, List.take_append_getElem]
end Go.Sx
namespace Go.Sx
theorem jc (l : List (U Qd)) : aa l = oz cx l 0 l.length := by
  unfold aa bd a7 bZ
  show bh l 0 l.length = _
  unfold bh
  rfl
theorem jT (a b : U Qd) : cx a b = cU a b := by
  unfold cx aO cU ci
  rfl
theorem iN {d : List (U Qd)} (hd : ∀ u ∈ d, Tv u.iv) : (aa d).Perm d ∧ (aa d).Pairwise fun a b => kU a.iv ≤ kU b.iv := by
  rw [jc]
  exact pG jT hd
theorem kn (l : List (U Qd)) : bu l [] = il (l.map (·.iv)) := by
  unfold bu
  have := kj (R := List GR) (f := fun (o : List GR) (u : U Qd) => aq (aq o u.iv.lo) u.iv.hi) l (B := fun s => bT l [] s.1 s.2)
    (fun o i hi => by
      show bT l [] o i = _
      unfold bT
      rw [decide_eq_true (by omega : ((i : Nat) : Int) < ((l.length : Nat) : Int))]
      rfl)
    (fun o => by
      show bT l [] o l.length = _
      unfold bT
      rw [decide_eq_false (by omega : ¬ ((l.length : Nat) : Int) < ((l.length : Nat) : Int))]
      rfl) l [] [] (l.length - 0 + 1) rfl (by omega)
  refine (eQ this).trans ?_
  unfold fJ il
  rw [List.foldl_map]
theorem jy (l : List (U Qd)) (ts : List GR) : bH l ts = fl (default : Qd) l ts := by
  unfold bH fl
  have h1 := lZ (R := List (At Qd)) (z := (default : Qd)) (ts := ts) (B := fun s => bo l ts s.1 s.2)
    (fun o i hi => by
      show bo l ts o i = _
      unfold bo
      rw [decide_eq_true (by omega : ((i : Nat) : Int) < ((ts.length : Nat) : Int)), decide_eq_true (by omega : ((i + 1 : Nat) : Int) < ((ts.length : Nat) : Int))]
      rfl)
    (fun o i hi => by
      show bo l ts o i = _
      unfold bo
      rw [decide_eq_true (by omega : ((i : Nat) : Int) < ((ts.length : Nat) : Int)), decide_eq_false (by omega : ¬ ((i + 1 : Nat) : Int) < ((ts.length : Nat) : Int))]
      rfl)
    (fun o => by
      show bo l ts o ts.length = _
      unfold bo
      rw [decide_eq_false (by omega : ¬ ((ts.length : Nat) : Int) < ((ts.length : Nat) : Int))]
      rfl) ts [] [] (ts.length - 0 + 1) rfl (by omega)
  refine (eQ h1).trans ?_
  show eE l ts ([] ++ et (default : Qd) ts) ts.length = _
  rw [List.nil_append]
  generalize et (default : Qd) ts = o0
  unfold eE
  have h2 := pe (R := List (At Qd)) (g := ic l) (n := o0.length) (B := fun s => bO l ts o0 ts.length s.1 s.2)
    (fun o i hi hn => by
      show bO l ts o0 ts.length i o = _
      unfold bO
      rw [decide_eq_true (by omega : ((i : Nat) : Int) < ((o.length : Nat) : Int)), cond_true]
      have h3 := kK (R := List (At Qd)) (f := fun o u => o.set i (iJ u (gt o i))) l (I := fun o => i < o.length) (B := fun s => bI l ts o0 ts.length i o s.1 s.2)
        (fun o x h => by simpa using h)
        (fun o k ho hk => by
          show bI l ts o0 ts.length i _ k o = _
          unfold bI iJ
          rw [decide_eq_true (by omega : ((k : Nat) : Int) < ((l.length : Nat) : Int)), cond_true]
          cases aQ (gt l k).iv (gt o i).frm (gt o i).til (gt o i).gap
          · rw [cond_false, cond_false, set_gt ho]
          · rfl)
        (fun o' => by
          show bI l ts o0 ts.length i _ l.length o' = _
          unfold bI
          rw [decide_eq_false (by omega : ¬ ((l.length : Nat) : Int) < ((l.length : Nat) : Int))]
          rfl) l [] o (l.length - 0 + 1) hi rfl (by omega)
      refine (eQ h3).trans ?_
      show eD l ts o0 ts.length i _ l.length _ = _
      unfold eD
      rw [pm i l o hi])
    (fun o hn => by
      show bO l ts o0 ts.length o0.length o = _
      unfold bO
      rw [hn, decide_eq_false (by omega : ¬ ((o0.length : Nat) : Int) < ((o0.length : Nat) : Int))]
      rfl) o0 [] (o0.length - 0 + 1) (by simp) (by omega)
  refine (eQ h2).trans ?_
  rfl
theorem iS (l : List (U Qd)) : ab l = l.flatMap atU := by
  unfold ab
  have h := kK (R := List (U Qd)) (f := fun o u => o ++ atU u) l (I := fun _ => True) (B := fun s => bE l s.1 s.2)
    (fun _ _ h => h)
    (fun o i _ hi => by
      show bE l i o = _
      unfold bE atU ptU l9
      rw [decide_eq_true (by omega : ((i : Nat) : Int) < ((l.length : Nat) : Int)), cond_true]
      cases (gt l i).iv.openLo <;> cases ar (gt l i).iv <;> cases (gt l i).iv.openHi <;> simp)
    (fun o => by
      show bE l l.length o = _
      unfold bE
      rw [decide_eq_false (by omega : ¬ ((l.length : Nat) : Int) < ((l.length : Nat) : Int))]
      rfl) l [] [] (l.length - 0 + 1) trivial rfl (by omega)
  refine (eQ h).trans ?_
  show fm l l.length _ = _
  unfold fm
  rw [ki, List.nil_append]
theorem gi {l : List (U Qd)} (hl : (aa l).length = l.length) (h : ∀ i, 0 < i → i < l.length → bj (gt (aa l) (i - 1)).iv (gt (aa l) i).iv = true) : aV l = eB l l.length := by
  unfold aV
  refine (eQ (kv (n := l.length) (r := (([], 11) : List (U Qd) × Int)) (bad := fun x => decide (((x : Nat) : Int) > 0) && !(bj (gt (aa l) (x - 1)).iv (gt (aa l) x).iv)) (fun x hx => by
    unfold cX
    rw [hl, decide_eq_true (by omega : ((x : Nat) : Int) < ((l.length : Nat) : Int)), cond_true]) (by
    unfold cX
    rw [hl, decide_eq_false (by omega : ¬ ((l.length : Nat) : Int) < ((l.length : Nat) : Int))]
    rfl) (l.length - 0 + 1) 0 (Nat.zero_le _) (by omega) fun i _ h2 => ?_)).trans rfl
  by_cases e : 0 < i
  · show (decide (((i : Nat) : Int) > 0) && !(bj (gt (aa l) (i - 1)).iv (gt (aa l) i).iv)) = false
    rw [h i e h2, Bool.not_true, Bool.and_false]
  · show (decide (((i : Nat) : Int) > 0) && _) = false
    rw [decide_eq_false (by omega : ¬ ((i : Nat) : Int) > 0), Bool.false_and]
theorem l7 (l : List (U Qd)) (x18 : Nat) (out : List (U Qd)) (x : Nat) (hx : x < (ab (aa l)).length) :
    bf l x18 out x = .go (dg aY aI ax (ab (aa l)) out x, x + 1) := by
  unfold bf dg ft gD mb iI dT
  rw [decide_eq_true (by omega : ((x : Nat) : Int) < (((ab (aa l)).length : Nat) : Int)), cond_true]
  generalize ab (aa l) = L
  repeat' (first | refine oE ?_ ?_ | rfl)
theorem lV (l : List (At Qd)) (out : List (U Qd)) (i : Nat) (hi : i < l.length) :
    bc l out i = .go (dS aY aI ax l out i, i + 1) := by
  unfold bc dS
  rw [decide_eq_true (by omega : ((i : Nat) : Int) < ((l.length : Nat) : Int)), cond_true]
  cases (gt l i).has <;> cases (gt l i).gap <;> simp only [Bool.not_true, Bool.not_false, cond_true, cond_false]
  · repeat' (first | refine oE ?_ ?_ | rfl)
  · repeat' (first | refine oE ?_ ?_ | rfl)
theorem gj (l : List (U Qd)) (n : Nat) : eB l n = (dR (dg aY aI ax (ab (aa l))) [] (ab (aa l)).length, 0) := by
  unfold eB
  refine (eQ (lK (o := ([] : List (U Qd))) (st := dg aY aI ax (ab (aa l))) (n := (ab (aa l)).length) (B := fun s => bf l n s.1 s.2)
    (fun o i hi => l7 l n o i hi) (fun o => by
      show bf l n o _ = _
      unfold bf
      rw [decide_eq_false (by omega : ¬ (((ab (aa l)).length : Nat) : Int) < (((ab (aa l)).length : Nat) : Int))]
      rfl) _ 0 (Nat.zero_le _) (by omega))).trans ?_
  rfl
theorem gX (l : List (At Qd)) : cu l = dR (dS aY aI ax l) [] l.length := by
  unfold cu
  refine (eQ (lK (o := ([] : List (U Qd))) (st := dS aY aI ax l) (n := l.length) (B := fun s => bc l s.1 s.2)
    (fun o i hi => lV l o i hi) (fun o => by
      show bc l o _ = _
      unfold bc
      rw [decide_eq_false (by omega : ¬ ((l.length : Nat) : Int) < ((l.length : Nat) : Int))]
      rfl) _ 0 (Nat.zero_le _) (by omega))).trans ?_
  rfl
theorem l5 (he : ∀ f, aY f f = true) (l : List (U Qd)) : ca l l = true := by
  unfold ca
  rw [show ((((l.length : Nat) : Int)) != (((l.length : Nat) : Int))) = false by simp, cond_false]
  refine (eQ (kv (n := l.length) (r := false) (bad := fun i => ((!(decide ((gt l i).iv = (gt l i).iv))) || (!(aY ((gt l i).f) ((gt l i).f))))) (fun i hi => by
    unfold cw
    rw [decide_eq_true (by omega : ((i : Nat) : Int) < ((l.length : Nat) : Int)), cond_true]) (by
    unfold cw
    rw [decide_eq_false (by omega : ¬ ((l.length : Nat) : Int) < ((l.length : Nat) : Int))]
    rfl) (l.length - 0 + 1) 0 (Nat.zero_le _) (by omega) fun i _ _ => ?_)).trans rfl
  rw [he, decide_eq_true rfl]
  rfl
theorem l6 (heq : ∀ a b, aY a b = true → a = b) {d u : List (U Qd)} (hp : d.Perm u) (hW : ∀ x ∈ u, Wv x.iv) (hD : u.Pairwise fun a b => Dj a.iv b.iv) : aV d = (ay u, 0) := by
  have hWd : ∀ x ∈ d, Wv x.iv := fun x hx => hW x (hp.mem_iff.1 hx)
  obtain ⟨s1, s2⟩ := iN (fun x hx => (hWd x hx).1)
  have hps := s1.trans hp
  have hE := (ko (l := u.map (·.iv)) (fun i hi => by obtain ⟨x, hx, rfl⟩ := List.mem_map.1 hi; exact (hW x hx).1)).1
  rw [gi s1.length_eq fun i h0 h1 => (ll hW hps s2).2 hD i h0 (by rw [s1.length_eq]; exact h1), gj]
  have e1 : ab (aa d) = ij (fl (default : Qd) u (il (u.map (·.iv)))) := by
    rw [iS]; exact atoms_eq hW hD hps s2
  unfold ay
  rw [e1, gX, kn, jy, loops_eq heq (lp hE)]
end Go.Sx
