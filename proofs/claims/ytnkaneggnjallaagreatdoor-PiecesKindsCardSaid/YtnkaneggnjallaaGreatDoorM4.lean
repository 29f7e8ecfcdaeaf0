/- A part of the proof that the law PiecesKinds answers true at every input and leaves its arguments as they were. -/
import Derived.Test.YtnkaneggnjallaaGreatDoorM3
import Derived.Test.YtnkaneggnjallaaGreatDoorL2
set_option linter.unusedVariables false
set_option linter.unusedSimpArgs false
namespace Go.Sx
theorem nP (l : List (U Ln)) : aa l = nX dU l 0 l.length := by
  unfold aa bp bh cA
  show bA l 0 l.length = _
  unfold bA
  rfl
theorem oX (a b : U Ln) : dU a b = cU a b := by
  unfold dU aW cU ci
  rfl
theorem oG {d : List (U Ln)} (hd : ∀ u ∈ d, Tv u.iv) : (aa d).Perm d ∧ (aa d).Pairwise fun a b => kU a.iv ≤ kU b.iv := by
  rw [nP]
  exact mO oX hd
theorem rc (l : List (U Ln)) : bS l [] = mL (l.map (·.iv)) := by
  unfold bS
  have := i0 (R := List GR) (f := fun (o : List GR) (u : U Ln) => aq (aq o u.iv.lo) u.iv.hi) l (B := fun s => cu l [] s.1 s.2)
    (fun o i hi => by
      show cu l [] o i = _
      unfold cu
      rw [decide_eq_true (by omega : ((i : Nat) : Int) < ((l.length : Nat) : Int))]
      rfl)
    (fun o => by
      show cu l [] o l.length = _
      unfold cu
      rw [decide_eq_false (by omega : ¬ ((l.length : Nat) : Int) < ((l.length : Nat) : Int))]
      rfl) l [] [] (l.length - 0 + 1) rfl (by omega)
  refine (ee this).trans ?_
  unfold gH mL
  rw [List.foldl_map]
theorem qi (l : List (U Ln)) (ts : List GR) : ca l ts = gX (default : Ln) l ts := by
  unfold ca gX
  have h1 := lk (R := List (At Ln)) (z := (default : Ln)) (ts := ts) (B := fun s => bM l ts s.1 s.2)
    (fun o i hi => by
      show bM l ts o i = _
      unfold bM
      rw [decide_eq_true (by omega : ((i : Nat) : Int) < ((ts.length : Nat) : Int)), decide_eq_true (by omega : ((i + 1 : Nat) : Int) < ((ts.length : Nat) : Int))]
      rfl)
    (fun o i hi => by
      show bM l ts o i = _
      unfold bM
      rw [decide_eq_true (by omega : ((i : Nat) : Int) < ((ts.length : Nat) : Int)), decide_eq_false (by omega : ¬ ((i + 1 : Nat) : Int) < ((ts.length : Nat) : Int))]
      rfl)
    (fun o => by
      show bM l ts o ts.length = _
      unfold bM
      rw [decide_eq_false (by omega : ¬ ((ts.length : Nat) : Int) < ((ts.length : Nat) : Int))]
      rfl) ts [] [] (ts.length - 0 + 1) rfl (by omega)
  refine (ee h1).trans ?_
  show fm l ts ([] ++ fQ (default : Ln) ts) ts.length = _
  rw [List.nil_append]
  generalize fQ (default : Ln) ts = o0
  unfold fm
  have h2 := nh (R := List (At Ln)) (g := j7 l) (n := o0.length) (B := fun s => co l ts o0 ts.length s.1 s.2)
    (fun o i hi hn => by
      show co l ts o0 ts.length i o = _
      unfold co
      rw [decide_eq_true (by omega : ((i : Nat) : Int) < ((o.length : Nat) : Int)), cond_true]
      have h3 := jA (R := List (At Ln)) (f := fun o u => o.set i (jS u (gt o i))) l (I := fun o => i < o.length) (B := fun s => cb l ts o0 ts.length i o s.1 s.2)
        (fun o x h => by simpa using h)
        (fun o k ho hk => by
          show cb l ts o0 ts.length i _ k o = _
          unfold cb jS
          rw [decide_eq_true (by omega : ((k : Nat) : Int) < ((l.length : Nat) : Int)), cond_true]
          cases aY (gt l k).iv (gt o i).frm (gt o i).til (gt o i).gap
          · rw [cond_false, cond_false, qu ho]
          · rfl)
        (fun o' => by
          show cb l ts o0 ts.length i _ l.length o' = _
          unfold cb
          rw [decide_eq_false (by omega : ¬ ((l.length : Nat) : Int) < ((l.length : Nat) : Int))]
          rfl) l [] o (l.length - 0 + 1) hi rfl (by omega)
      refine (ee h3).trans ?_
      show fl l ts o0 ts.length i _ l.length _ = _
      unfold fl
      rw [nq i l o hi])
    (fun o hn => by
      show co l ts o0 ts.length o0.length o = _
      unfold co
      rw [hn, decide_eq_false (by omega : ¬ ((o0.length : Nat) : Int) < ((o0.length : Nat) : Int))]
      rfl) o0 [] (o0.length - 0 + 1) (by simp) (by omega)
  refine (ee h2).trans ?_
  rfl
theorem oN (l : List (U Ln)) : ae l = l.flatMap atU := by
  unfold ae
  have h := jA (R := List (U Ln)) (f := fun o u => o ++ atU u) l (I := fun _ => True) (B := fun s => bY l s.1 s.2)
    (fun _ _ h => h)
    (fun o i _ hi => by
      show bY l i o = _
      unfold bY atU ptU gapU
      rw [decide_eq_true (by omega : ((i : Nat) : Int) < ((l.length : Nat) : Int)), cond_true]
      cases (gt l i).iv.openLo <;> cases aI (gt l i).iv <;> cases (gt l i).iv.openHi <;> simp)
    (fun o => by
      show bY l l.length o = _
      unfold bY
      rw [decide_eq_false (by omega : ¬ ((l.length : Nat) : Int) < ((l.length : Nat) : Int))]
      rfl) l [] [] (l.length - 0 + 1) trivial rfl (by omega)
  refine (ee h).trans ?_
  show f5 l l.length _ = _
  unfold f5
  rw [mq, List.nil_append]
theorem mE {l : List (U Ln)} (hl : (aa l).length = l.length) (h : ∀ i, 0 < i → i < l.length → bP (gt (aa l) (i - 1)).iv (gt (aa l) i).iv = true) : aG l = fj l l.length := by
  unfold aG
  refine (ee (l8 (n := l.length) (r := (([], 11) : List (U Ln) × Int)) (bad := fun x => decide (((x : Nat) : Int) > 0) && !(bP (gt (aa l) (x - 1)).iv (gt (aa l) x).iv)) (fun x hx => by
    unfold dM
    rw [hl, decide_eq_true (by omega : ((x : Nat) : Int) < ((l.length : Nat) : Int)), cond_true]) (by
    unfold dM
    rw [hl, decide_eq_false (by omega : ¬ ((l.length : Nat) : Int) < ((l.length : Nat) : Int))]
    rfl) (l.length - 0 + 1) 0 (Nat.zero_le _) (by omega) fun i _ h2 => ?_)).trans rfl
  by_cases e : 0 < i
  · show (decide (((i : Nat) : Int) > 0) && !(bP (gt (aa l) (i - 1)).iv (gt (aa l) i).iv)) = false
    rw [h i e h2, Bool.not_true, Bool.and_false]
  · show (decide (((i : Nat) : Int) > 0) && _) = false
    rw [decide_eq_false (by omega : ¬ ((i : Nat) : Int) > 0), Bool.false_and]
theorem mH (l : List (U Ln)) (x18 : Nat) (out : List (U Ln)) (x : Nat) (hx : x < (ae (aa l)).length) :
    br l x18 out x = .go (iL bJ a6 aS (ae (aa l)) out x, x + 1) := by
  unfold br iL lI mg befB n9 eA
  rw [decide_eq_true (by omega : ((x : Nat) : Int) < (((ae (aa l)).length : Nat) : Int)), cond_true]
  generalize ae (aa l) = L
  repeat' (first | refine lF ?_ ?_ | rfl)
theorem my (l : List (At Ln)) (out : List (U Ln)) (i : Nat) (hi : i < l.length) :
    bk l out i = .go (fV bJ a6 aS l out i, i + 1) := by
  unfold bk fV
  rw [decide_eq_true (by omega : ((i : Nat) : Int) < ((l.length : Nat) : Int)), cond_true]
  cases (gt l i).has <;> cases (gt l i).gap <;> simp only [Bool.not_true, Bool.not_false, cond_true, cond_false]
  · repeat' (first | refine lF ?_ ?_ | rfl)
  · repeat' (first | refine lF ?_ ?_ | rfl)
theorem mG (l : List (U Ln)) (n : Nat) : fj l n = (kp (iL bJ a6 aS (ae (aa l))) [] (ae (aa l)).length, 0) := by
  unfold fj
  refine (ee (ko (o := ([] : List (U Ln))) (st := iL bJ a6 aS (ae (aa l))) (n := (ae (aa l)).length) (B := fun s => br l n s.1 s.2)
    (fun o i hi => mH l n o i hi) (fun o => by
      show br l n o _ = _
      unfold br
      rw [decide_eq_false (by omega : ¬ (((ae (aa l)).length : Nat) : Int) < (((ae (aa l)).length : Nat) : Int))]
      rfl) _ 0 (Nat.zero_le _) (by omega))).trans ?_
  rfl
theorem nF (l : List (At Ln)) : di l = kp (fV bJ a6 aS l) [] l.length := by
  unfold di
  refine (ee (ko (o := ([] : List (U Ln))) (st := fV bJ a6 aS l) (n := l.length) (B := fun s => bk l s.1 s.2)
    (fun o i hi => my l o i hi) (fun o => by
      show bk l o _ = _
      unfold bk
      rw [decide_eq_false (by omega : ¬ ((l.length : Nat) : Int) < ((l.length : Nat) : Int))]
      rfl) _ 0 (Nat.zero_le _) (by omega))).trans ?_
  rfl
theorem oF (l : List (U Ln)) (b : Nat) : ax l b = turnF l b := by
  unfold ax
  have := i0 (R := List (U Ln)) (f := fun (o : List (U Ln)) (i : Nat) => gt l ((i + b) % l.length) :: o) (List.range l.length) (B := fun s => ce l b s.1 s.2)
    (fun o i hi => by
      rw [List.length_range] at hi
      show ce l b o i = _
      unfold ce
      rw [decide_eq_true (by omega : ((i : Nat) : Int) < ((l.length : Nat) : Int)), po hi]
      rfl)
    (fun o => by
      show ce l b o (List.range l.length).length = _
      unfold ce
      rw [List.length_range, decide_eq_false (by omega : ¬ ((l.length : Nat) : Int) < ((l.length : Nat) : Int))]
      rfl) (List.range l.length) [] [] (l.length - 0 + 1) rfl (by simp)
  refine (ee this).trans ?_
  rfl
theorem mC (he : ∀ f, bJ f f = true) (l : List (U Ln)) : cC l l = true := by
  unfold cC
  rw [show ((((l.length : Nat) : Int)) != (((l.length : Nat) : Int))) = false by simp, cond_false]
  refine (ee (l8 (n := l.length) (r := false) (bad := fun i => ((!(decide ((gt l i).iv = (gt l i).iv))) || (!(bJ ((gt l i).f) ((gt l i).f))))) (fun i hi => by
    unfold dl
    rw [decide_eq_true (by omega : ((i : Nat) : Int) < ((l.length : Nat) : Int)), cond_true]) (by
    unfold dl
    rw [decide_eq_false (by omega : ¬ ((l.length : Nat) : Int) < ((l.length : Nat) : Int))]
    rfl) (l.length - 0 + 1) 0 (Nat.zero_le _) (by omega) fun i _ _ => ?_)).trans rfl
  rw [he, decide_eq_true rfl]
  rfl
theorem mF (heq : ∀ a b, bJ a b = true → a = b) {d u : List (U Ln)} (hp : d.Perm u) (hW : ∀ x ∈ u, Wv x.iv) (hD : u.Pairwise fun a b => Dj a.iv b.iv) : aG d = (bU u, 0) := by
  have hWd : ∀ x ∈ d, Wv x.iv := fun x hx => hW x (hp.mem_iff.1 hx)
  obtain ⟨s1, s2⟩ := oG (fun x hx => (hWd x hx).1)
  have hps := s1.trans hp
  have hE := (nu (l := u.map (·.iv)) (fun i hi => by obtain ⟨x, hx, rfl⟩ := List.mem_map.1 hi; exact (hW x hx).1)).1
  rw [mE s1.length_eq fun i h0 h1 => (pE hW hps s2).2 hD i h0 (by rw [s1.length_eq]; exact h1), mG]
  have e1 : ae (aa d) = iZ (gX (default : Ln) u (mL (u.map (·.iv)))) := by
    rw [oN]; exact pD hW hD hps s2
  unfold bU
  rw [e1, nF, rc, qi, pi heq (l5 hE)]
end Go.Sx
namespace Go.Sx
theorem qW (l : List (U Qd)) : ap l = l.map fun u => ⟨u.iv, aL u.f.c0⟩ := by
  unfold ap
  have := i0 (R := List (U Int)) (f := fun (o : List (U Int)) (u : U Qd) => o ++ [⟨u.iv, aL u.f.c0⟩]) l (B := fun s => cP l s.1 s.2)
    (fun o i hi => by
      show cP l o i = _
      unfold cP
      rw [decide_eq_true (by omega : ((i : Nat) : Int) < ((l.length : Nat) : Int))]
      rfl)
    (fun o => by
      show cP l o l.length = _
      unfold cP
      rw [decide_eq_false (by omega : ¬ ((l.length : Nat) : Int) < ((l.length : Nat) : Int))]
      rfl) l [] [] (l.length - 0 + 1) rfl (by omega)
  refine (ee this).trans ?_
  unfold ij
  rw [lC, List.nil_append]
theorem lines_eq (l : List (U Qd)) : aC l = l.map fun u => ⟨u.iv, ⟨u.f.c0, u.f.c1, u.f.c2, u.f.c1⟩⟩ := by
  unfold aC
  have := i0 (R := List (U Ln)) (f := fun (o : List (U Ln)) (u : U Qd) => o ++ [⟨u.iv, ⟨u.f.c0, u.f.c1, u.f.c2, u.f.c1⟩⟩]) l (B := fun s => dm l s.1 s.2)
    (fun o i hi => by
      show dm l o i = _
      unfold dm
      rw [decide_eq_true (by omega : ((i : Nat) : Int) < ((l.length : Nat) : Int))]
      rfl)
    (fun o => by
      show dm l o l.length = _
      unfold dm
      rw [decide_eq_false (by omega : ¬ ((l.length : Nat) : Int) < ((l.length : Nat) : Int))]
      rfl) l [] [] (l.length - 0 + 1) rfl (by omega)
  refine (ee this).trans ?_
  unfold iu
  rw [lC, List.nil_append]
theorem lJ (a b : Int) : bE a b = true ↔ a = b := by
  unfold bE
  simp
theorem ml (a b : Ln) : bJ a b = true ↔ a = b := by
  unfold bJ
  simp
theorem nV (l : List Stp) : (∀ x ∈ ap (am l), Wv x.iv) ∧ (ap (am l)).Pairwise fun a b => Dj a.iv b.iv := by
  obtain ⟨h1, h2⟩ := pB l
  rw [qW]
  exact ⟨fun x hx => by obtain ⟨y, hy, rfl⟩ := List.mem_map.1 hx; exact (h1 y hy).1, by rw [List.pairwise_map]; exact h2⟩
theorem pk (l : List Stp) : (∀ x ∈ aC (am l), Wv x.iv) ∧ (aC (am l)).Pairwise fun a b => Dj a.iv b.iv := by
  obtain ⟨h1, h2⟩ := pB l
  rw [lines_eq]
  exact ⟨fun x hx => by obtain ⟨y, hy, rfl⟩ := List.mem_map.1 hx; exact (h1 y hy).1, by rw [List.pairwise_map]; exact h2⟩
theorem oT (l : List Stp) (b : Nat) : ay (au (ap (am l)) b) = (aO (ap (am l)), 0) := by
  rw [pJ]
  exact na (fun a b => (lJ a b).1) (nN _ _) (nV l).1 (nV l).2
theorem qX (l : List Stp) (b : Nat) : aG (ax (aC (am l)) b) = (bU (aC (am l)), 0) := by
  rw [oF]
  exact mF (fun a b => (ml a b).1) (nN _ _) (pk l).1 (pk l).2
theorem kY (l : List (U Int)) : aX l l = true := m0 (fun f => (lJ f f).2 rfl) l
theorem mD (l : List (U Ln)) : cC l l = true := mC (fun f => (ml f f).2 rfl) l
end Go.Sx
