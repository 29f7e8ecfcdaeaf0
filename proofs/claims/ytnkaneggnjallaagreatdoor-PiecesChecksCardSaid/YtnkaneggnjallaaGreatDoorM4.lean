/- A part of the proof that the law PiecesChecks answers true at every input and leaves its arguments as they were. -/
import Derived.Test.YtnkaneggnjallaaGreatDoorM3
import Derived.Test.YtnkaneggnjallaaGreatDoorQ2
import Derived.Test.YtnkaneggnjallaaGreatDoorQ3
set_option linter.unusedVariables false
set_option linter.unusedSimpArgs false
namespace Go.Sx
theorem mD (l : List (U Qd)) : ad l = nF cJ l 0 l.length := by
  unfold ad a8 aW bQ
  show bc l 0 l.length = _
  unfold bc
  rfl
theorem nM (a b : U Qd) : cJ a b = cU a b := by
  unfold cJ aJ cU ci
  rfl
theorem jm {d : List (U Qd)} (hd : ∀ u ∈ d, Tv u.iv) : (ad d).Perm d ∧ (ad d).Pairwise fun a b => kU a.iv ≤ kU b.iv := by
  rw [mD]
  exact oZ nM hd
theorem jL (l : List (U Qd)) : bn l [] = gi (l.map (·.iv)) := by
  unfold bn
  have := m5 (R := List GR) (f := fun (o : List GR) (u : U Qd) => ap (ap o u.iv.lo) u.iv.hi) l (B := fun s => bM l [] s.1 s.2)
    (fun o i hi => by
      show bM l [] o i = _
      unfold bM
      rw [decide_eq_true (by omega : ((i : Nat) : Int) < ((l.length : Nat) : Int))]
      rfl)
    (fun o => by
      show bM l [] o l.length = _
      unfold bM
      rw [decide_eq_false (by omega : ¬ ((l.length : Nat) : Int) < ((l.length : Nat) : Int))]
      rfl) l [] [] (l.length - 0 + 1) rfl (by omega)
  refine (eW this).trans ?_
  unfold fk gi
  rw [List.foldl_map]
theorem i9 (l : List (U Qd)) (ts : List GR) : bC l ts = eZ (default : Qd) l ts := by
  unfold bC eZ
  have h1 := ll (R := List (At Qd)) (z := (default : Qd)) (ts := ts) (B := fun s => bk l ts s.1 s.2)
    (fun o i hi => by
      show bk l ts o i = _
      unfold bk
      rw [decide_eq_true (by omega : ((i : Nat) : Int) < ((ts.length : Nat) : Int)), decide_eq_true (by omega : ((i + 1 : Nat) : Int) < ((ts.length : Nat) : Int))]
      rfl)
    (fun o i hi => by
      show bk l ts o i = _
      unfold bk
      rw [decide_eq_true (by omega : ((i : Nat) : Int) < ((ts.length : Nat) : Int)), decide_eq_false (by omega : ¬ ((i + 1 : Nat) : Int) < ((ts.length : Nat) : Int))]
      rfl)
    (fun o => by
      show bk l ts o ts.length = _
      unfold bk
      rw [decide_eq_false (by omega : ¬ ((ts.length : Nat) : Int) < ((ts.length : Nat) : Int))]
      rfl) ts [] [] (ts.length - 0 + 1) rfl (by omega)
  refine (eW h1).trans ?_
  show es l ts ([] ++ ep (default : Qd) ts) ts.length = _
  rw [List.nil_append]
  generalize ep (default : Qd) ts = o0
  unfold es
  have h2 := oq (R := List (At Qd)) (g := gP l) (n := o0.length) (B := fun s => bH l ts o0 ts.length s.1 s.2)
    (fun o i hi hn => by
      show bH l ts o0 ts.length i o = _
      unfold bH
      rw [decide_eq_true (by omega : ((i : Nat) : Int) < ((o.length : Nat) : Int)), cond_true]
      have h3 := ke (R := List (At Qd)) (f := fun o u => o.set i (ij u (gt o i))) l (I := fun o => i < o.length) (B := fun s => bE l ts o0 ts.length i o s.1 s.2)
        (fun o x h => by simpa using h)
        (fun o k ho hk => by
          show bE l ts o0 ts.length i _ k o = _
          unfold bE ij
          rw [decide_eq_true (by omega : ((k : Nat) : Int) < ((l.length : Nat) : Int)), cond_true]
          cases aM (gt l k).iv (gt o i).frm (gt o i).til (gt o i).gap
          · rw [cond_false, cond_false, set_gt ho]
          · rfl)
        (fun o' => by
          show bE l ts o0 ts.length i _ l.length o' = _
          unfold bE
          rw [decide_eq_false (by omega : ¬ ((l.length : Nat) : Int) < ((l.length : Nat) : Int))]
          rfl) l [] o (l.length - 0 + 1) hi rfl (by omega)
      refine (eW h3).trans ?_
      show er l ts o0 ts.length i _ l.length _ = _
      unfold er
      rw [oC i l o hi])
    (fun o hn => by
      show bH l ts o0 ts.length o0.length o = _
      unfold bH
      rw [hn, decide_eq_false (by omega : ¬ ((o0.length : Nat) : Int) < ((o0.length : Nat) : Int))]
      rfl) o0 [] (o0.length - 0 + 1) (by simp) (by omega)
  refine (eW h2).trans ?_
  rfl
theorem jp (l : List (U Qd)) : ae l = l.flatMap atU := by
  unfold ae
  have h := ke (R := List (U Qd)) (f := fun o u => o ++ atU u) l (I := fun _ => True) (B := fun s => bt l s.1 s.2)
    (fun _ _ h => h)
    (fun o i _ hi => by
      show bt l i o = _
      unfold bt atU ptU lr
      rw [decide_eq_true (by omega : ((i : Nat) : Int) < ((l.length : Nat) : Int)), cond_true]
      cases (gt l i).iv.openLo <;> cases aw (gt l i).iv <;> cases (gt l i).iv.openHi <;> simp)
    (fun o => by
      show bt l l.length o = _
      unfold bt
      rw [decide_eq_false (by omega : ¬ ((l.length : Nat) : Int) < ((l.length : Nat) : Int))]
      rfl) l [] [] (l.length - 0 + 1) trivial rfl (by omega)
  refine (eW h).trans ?_
  show e7 l l.length _ = _
  unfold e7
  rw [m0, List.nil_append]
theorem g8 {l : List (U Qd)} (hl : (ad l).length = l.length) (h : ∀ i, 0 < i → i < l.length → bm (gt (ad l) (i - 1)).iv (gt (ad l) i).iv = true) : aZ l = ej l l.length := by
  unfold aZ
  refine (eW (kK (n := l.length) (r := (([], 11) : List (U Qd) × Int)) (bad := fun x => decide (((x : Nat) : Int) > 0) && !(bm (gt (ad l) (x - 1)).iv (gt (ad l) x).iv)) (fun x hx => by
    unfold cC
    rw [hl, decide_eq_true (by omega : ((x : Nat) : Int) < ((l.length : Nat) : Int)), cond_true]) (by
    unfold cC
    rw [hl, decide_eq_false (by omega : ¬ ((l.length : Nat) : Int) < ((l.length : Nat) : Int))]
    rfl) (l.length - 0 + 1) 0 (Nat.zero_le _) (by omega) fun i _ h2 => ?_)).trans rfl
  by_cases e : 0 < i
  · show (decide (((i : Nat) : Int) > 0) && !(bm (gt (ad l) (i - 1)).iv (gt (ad l) i).iv)) = false
    rw [h i e h2, Bool.not_true, Bool.and_false]
  · show (decide (((i : Nat) : Int) > 0) && _) = false
    rw [decide_eq_false (by omega : ¬ ((i : Nat) : Int) > 0), Bool.false_and]
theorem lp (l : List (U Qd)) (x18 : Nat) (out : List (U Qd)) (x : Nat) (hx : x < (ae (ad l)).length) :
    bb l x18 out x = .go (dm aS aG aB (ae (ad l)) out x, x + 1) := by
  unfold bb dm fS hG nj j9 dE
  rw [decide_eq_true (by omega : ((x : Nat) : Int) < (((ae (ad l)).length : Nat) : Int)), cond_true]
  generalize ae (ad l) = L
  repeat' (first | refine nL ?_ ?_ | rfl)
theorem lh (l : List (At Qd)) (out : List (U Qd)) (i : Nat) (hi : i < l.length) :
    a7 l out i = .go (dh aS aG aB l out i, i + 1) := by
  unfold a7 dh
  rw [decide_eq_true (by omega : ((i : Nat) : Int) < ((l.length : Nat) : Int)), cond_true]
  cases (gt l i).has <;> cases (gt l i).gap <;> simp only [Bool.not_true, Bool.not_false, cond_true, cond_false]
  · repeat' (first | refine nL ?_ ?_ | rfl)
  · repeat' (first | refine nL ?_ ?_ | rfl)
theorem g9 (l : List (U Qd)) (n : Nat) : ej l n = (dG (dm aS aG aB (ae (ad l))) [] (ae (ad l)).length, 0) := by
  unfold ej
  refine (eW (kY (o := ([] : List (U Qd))) (st := dm aS aG aB (ae (ad l))) (n := (ae (ad l)).length) (B := fun s => bb l n s.1 s.2)
    (fun o i hi => lp l n o i hi) (fun o => by
      show bb l n o _ = _
      unfold bb
      rw [decide_eq_false (by omega : ¬ (((ae (ad l)).length : Nat) : Int) < (((ae (ad l)).length : Nat) : Int))]
      rfl) _ 0 (Nat.zero_le _) (by omega))).trans ?_
  rfl
theorem gj (l : List (At Qd)) : cf l = dG (dh aS aG aB l) [] l.length := by
  unfold cf
  refine (eW (kY (o := ([] : List (U Qd))) (st := dh aS aG aB l) (n := l.length) (B := fun s => a7 l s.1 s.2)
    (fun o i hi => lh l o i hi) (fun o => by
      show a7 l o _ = _
      unfold a7
      rw [decide_eq_false (by omega : ¬ ((l.length : Nat) : Int) < ((l.length : Nat) : Int))]
      rfl) _ 0 (Nat.zero_le _) (by omega))).trans ?_
  rfl
theorem ln (he : ∀ f, aS f f = true) (l : List (U Qd)) : b9 l l = true := by
  unfold b9
  rw [show ((((l.length : Nat) : Int)) != (((l.length : Nat) : Int))) = false by simp, cond_false]
  refine (eW (kK (n := l.length) (r := false) (bad := fun i => ((!(decide ((gt l i).iv = (gt l i).iv))) || (!(aS ((gt l i).f) ((gt l i).f))))) (fun i hi => by
    unfold bW
    rw [decide_eq_true (by omega : ((i : Nat) : Int) < ((l.length : Nat) : Int)), cond_true]) (by
    unfold bW
    rw [decide_eq_false (by omega : ¬ ((l.length : Nat) : Int) < ((l.length : Nat) : Int))]
    rfl) (l.length - 0 + 1) 0 (Nat.zero_le _) (by omega) fun i _ _ => ?_)).trans rfl
  rw [he, decide_eq_true rfl]
  rfl
theorem ji (heq : ∀ a b, aS a b = true → a = b) {d u : List (U Qd)} (hp : d.Perm u) (hW : ∀ x ∈ u, Wv x.iv) (hD : u.Pairwise fun a b => Dj a.iv b.iv) : aZ d = (aa u, 0) := by
  have hWd : ∀ x ∈ d, Wv x.iv := fun x hx => hW x (hp.mem_iff.1 hx)
  obtain ⟨s1, s2⟩ := jm (fun x hx => (hWd x hx).1)
  have hps := s1.trans hp
  have hE := (jM (l := u.map (·.iv)) (fun i hi => by obtain ⟨x, hx, rfl⟩ := List.mem_map.1 hi; exact (hW x hx).1)).1
  rw [g8 s1.length_eq fun i h0 h1 => (my hW hps s2).2 hD i h0 (by rw [s1.length_eq]; exact h1), g9]
  have e1 : ae (ad d) = gL (eZ (default : Qd) u (gi (u.map (·.iv)))) := by
    rw [jp]; exact atoms_eq hW hD hps s2
  unfold aa
  rw [e1, gj, jL, i9, loops_eq heq (kG hE)]
end Go.Sx
