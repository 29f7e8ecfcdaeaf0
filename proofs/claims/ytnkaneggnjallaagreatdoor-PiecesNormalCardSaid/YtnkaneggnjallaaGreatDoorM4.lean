/- A part of the proof that the law PiecesNormal answers true at every input and leaves its arguments as they were. -/
import Derived.Test.YtnkaneggnjallaaGreatDoorM3
import Derived.Test.YtnkaneggnjallaaGreatDoorQ2
import Derived.Test.YtnkaneggnjallaaGreatDoorQ3
set_option linter.unusedVariables false
set_option linter.unusedSimpArgs false
namespace Go.Sx
theorem mC (l : List (U Qd)) : aa l = nD cH l 0 l.length := by
  unfold aa a7 aV bO
  show bb l 0 l.length = _
  unfold bb
  rfl
theorem nK (a b : U Qd) : cH a b = cU a b := by
  unfold cH aL cU ci
  rfl
theorem jj {d : List (U Qd)} (hd : ∀ u ∈ d, Tv u.iv) : (aa d).Perm d ∧ (aa d).Pairwise fun a b => kU a.iv ≤ kU b.iv := by
  rw [mC]
  exact oV nK hd
theorem kZ (l : List (U Qd)) : bi l [] = iT (l.map (·.iv)) := by
  unfold bi
  have := kS (R := List GR) (f := fun (o : List GR) (u : U Qd) => aq (aq o u.iv.lo) u.iv.hi) l (B := fun s => bI l [] s.1 s.2)
    (fun o i hi => by
      show bI l [] o i = _
      unfold bI
      rw [decide_eq_true (by omega : ((i : Nat) : Int) < ((l.length : Nat) : Int))]
      rfl)
    (fun o => by
      show bI l [] o l.length = _
      unfold bI
      rw [decide_eq_false (by omega : ¬ ((l.length : Nat) : Int) < ((l.length : Nat) : Int))]
      rfl) l [] [] (l.length - 0 + 1) rfl (by omega)
  refine (eM this).trans ?_
  unfold ff iT
  rw [List.foldl_map]
theorem j9 (l : List (U Qd)) (ts : List GR) : bt l ts = fj (default : Qd) l ts := by
  unfold bt fj
  have h1 := ld (R := List (At Qd)) (z := (default : Qd)) (ts := ts) (B := fun s => bh l ts s.1 s.2)
    (fun o i hi => by
      show bh l ts o i = _
      unfold bh
      rw [decide_eq_true (by omega : ((i : Nat) : Int) < ((ts.length : Nat) : Int)), decide_eq_true (by omega : ((i + 1 : Nat) : Int) < ((ts.length : Nat) : Int))]
      rfl)
    (fun o i hi => by
      show bh l ts o i = _
      unfold bh
      rw [decide_eq_true (by omega : ((i : Nat) : Int) < ((ts.length : Nat) : Int)), decide_eq_false (by omega : ¬ ((i + 1 : Nat) : Int) < ((ts.length : Nat) : Int))]
      rfl)
    (fun o => by
      show bh l ts o ts.length = _
      unfold bh
      rw [decide_eq_false (by omega : ¬ ((ts.length : Nat) : Int) < ((ts.length : Nat) : Int))]
      rfl) ts [] [] (ts.length - 0 + 1) rfl (by omega)
  refine (eM h1).trans ?_
  show ee l ts ([] ++ er (default : Qd) ts) ts.length = _
  rw [List.nil_append]
  generalize er (default : Qd) ts = o0
  unfold ee
  have h2 := oo (R := List (At Qd)) (g := gG l) (n := o0.length) (B := fun s => bE l ts o0 ts.length s.1 s.2)
    (fun o i hi hn => by
      show bE l ts o0 ts.length i o = _
      unfold bE
      rw [decide_eq_true (by omega : ((i : Nat) : Int) < ((o.length : Nat) : Int)), cond_true]
      have h3 := j7 (R := List (At Qd)) (f := fun o u => o.set i (ib u (gt o i))) l (I := fun o => i < o.length) (B := fun s => bu l ts o0 ts.length i o s.1 s.2)
        (fun o x h => by simpa using h)
        (fun o k ho hk => by
          show bu l ts o0 ts.length i _ k o = _
          unfold bu ib
          rw [decide_eq_true (by omega : ((k : Nat) : Int) < ((l.length : Nat) : Int)), cond_true]
          cases aO (gt l k).iv (gt o i).frm (gt o i).til (gt o i).gap
          · rw [cond_false, cond_false, set_gt ho]
          · rfl)
        (fun o' => by
          show bu l ts o0 ts.length i _ l.length o' = _
          unfold bu
          rw [decide_eq_false (by omega : ¬ ((l.length : Nat) : Int) < ((l.length : Nat) : Int))]
          rfl) l [] o (l.length - 0 + 1) hi rfl (by omega)
      refine (eM h3).trans ?_
      show ed l ts o0 ts.length i _ l.length _ = _
      unfold ed
      rw [oB i l o hi])
    (fun o hn => by
      show bE l ts o0 ts.length o0.length o = _
      unfold bE
      rw [hn, decide_eq_false (by omega : ¬ ((o0.length : Nat) : Int) < ((o0.length : Nat) : Int))]
      rfl) o0 [] (o0.length - 0 + 1) (by simp) (by omega)
  refine (eM h2).trans ?_
  rfl
theorem jl (l : List (U Qd)) : ab l = l.flatMap atU := by
  unfold ab
  have h := j7 (R := List (U Qd)) (f := fun o u => o ++ atU u) l (I := fun _ => True) (B := fun s => bn l s.1 s.2)
    (fun _ _ h => h)
    (fun o i _ hi => by
      show bn l i o = _
      unfold bn atU ptU ll
      rw [decide_eq_true (by omega : ((i : Nat) : Int) < ((l.length : Nat) : Int)), cond_true]
      cases (gt l i).iv.openLo <;> cases ax (gt l i).iv <;> cases (gt l i).iv.openHi <;> simp)
    (fun o => by
      show bn l l.length o = _
      unfold bn
      rw [decide_eq_false (by omega : ¬ ((l.length : Nat) : Int) < ((l.length : Nat) : Int))]
      rfl) l [] [] (l.length - 0 + 1) trivial rfl (by omega)
  refine (eM h).trans ?_
  show eR l l.length _ = _
  unfold eR
  rw [mY, List.nil_append]
theorem gW {l : List (U Qd)} (hl : (aa l).length = l.length) (h : ∀ i, 0 < i → i < l.length → bA (gt (aa l) (i - 1)).iv (gt (aa l) i).iv = true) : ae l = d9 l l.length := by
  unfold ae
  refine (eM (kB (n := l.length) (r := (([], 11) : List (U Qd) × Int)) (bad := fun x => decide (((x : Nat) : Int) > 0) && !(bA (gt (aa l) (x - 1)).iv (gt (aa l) x).iv)) (fun x hx => by
    unfold cA
    rw [hl, decide_eq_true (by omega : ((x : Nat) : Int) < ((l.length : Nat) : Int)), cond_true]) (by
    unfold cA
    rw [hl, decide_eq_false (by omega : ¬ ((l.length : Nat) : Int) < ((l.length : Nat) : Int))]
    rfl) (l.length - 0 + 1) 0 (Nat.zero_le _) (by omega) fun i _ h2 => ?_)).trans rfl
  by_cases e : 0 < i
  · show (decide (((i : Nat) : Int) > 0) && !(bA (gt (aa l) (i - 1)).iv (gt (aa l) i).iv)) = false
    rw [h i e h2, Bool.not_true, Bool.and_false]
  · show (decide (((i : Nat) : Int) > 0) && _) = false
    rw [decide_eq_false (by omega : ¬ ((i : Nat) : Int) > 0), Bool.false_and]
theorem li (l : List (U Qd)) (x18 : Nat) (out : List (U Qd)) (x : Nat) (hx : x < (ab (aa l)).length) :
    ba l x18 out x = .go (df aU aG aA (ab (aa l)) out x, x + 1) := by
  unfold ba df fM gY nf jX dA
  rw [decide_eq_true (by omega : ((x : Nat) : Int) < (((ab (aa l)).length : Nat) : Int)), cond_true]
  generalize ab (aa l) = L
  repeat' (first | refine nJ ?_ ?_ | rfl)
theorem k9 (l : List (At Qd)) (out : List (U Qd)) (i : Nat) (hi : i < l.length) :
    aZ l out i = .go (dz aU aG aA l out i, i + 1) := by
  unfold aZ dz
  rw [decide_eq_true (by omega : ((i : Nat) : Int) < ((l.length : Nat) : Int)), cond_true]
  cases (gt l i).has <;> cases (gt l i).gap <;> simp only [Bool.not_true, Bool.not_false, cond_true, cond_false]
  · repeat' (first | refine nJ ?_ ?_ | rfl)
  · repeat' (first | refine nJ ?_ ?_ | rfl)
theorem gX (l : List (U Qd)) (n : Nat) : d9 l n = (dL (df aU aG aA (ab (aa l))) [] (ab (aa l)).length, 0) := by
  unfold d9
  refine (eM (kO (o := ([] : List (U Qd))) (st := df aU aG aA (ab (aa l))) (n := (ab (aa l)).length) (B := fun s => ba l n s.1 s.2)
    (fun o i hi => li l n o i hi) (fun o => by
      show ba l n o _ = _
      unfold ba
      rw [decide_eq_false (by omega : ¬ (((ab (aa l)).length : Nat) : Int) < (((ab (aa l)).length : Nat) : Int))]
      rfl) _ 0 (Nat.zero_le _) (by omega))).trans ?_
  rfl
theorem iu (l : List (At Qd)) : ca l = dL (dz aU aG aA l) [] l.length := by
  unfold ca
  refine (eM (kO (o := ([] : List (U Qd))) (st := dz aU aG aA l) (n := l.length) (B := fun s => aZ l s.1 s.2)
    (fun o i hi => k9 l o i hi) (fun o => by
      show aZ l o _ = _
      unfold aZ
      rw [decide_eq_false (by omega : ¬ ((l.length : Nat) : Int) < ((l.length : Nat) : Int))]
      rfl) _ 0 (Nat.zero_le _) (by omega))).trans ?_
  rfl
theorem np (l : List (U Qd)) (b : Nat) : af l b = turnF l b := by
  unfold af
  have := kS (R := List (U Qd)) (f := fun (o : List (U Qd)) (i : Nat) => gt l ((i + b) % l.length) :: o) (List.range l.length) (B := fun s => bC l b s.1 s.2)
    (fun o i hi => by
      rw [List.length_range] at hi
      show bC l b o i = _
      unfold bC
      rw [decide_eq_true (by omega : ((i : Nat) : Int) < ((l.length : Nat) : Int)), gt_range hi]
      rfl)
    (fun o => by
      show bC l b o (List.range l.length).length = _
      unfold bC
      rw [List.length_range, decide_eq_false (by omega : ¬ ((l.length : Nat) : Int) < ((l.length : Nat) : Int))]
      rfl) (List.range l.length) [] [] (l.length - 0 + 1) rfl (by simp)
  refine (eM this).trans ?_
  rfl
theorem jc (he : ∀ f, aU f f = true) (l : List (U Qd)) : aI l l = true := by
  unfold aI
  rw [show ((((l.length : Nat) : Int)) != (((l.length : Nat) : Int))) = false by simp, cond_false]
  refine (eM (kB (n := l.length) (r := false) (bad := fun i => ((!(decide ((gt l i).iv = (gt l i).iv))) || (!(aU ((gt l i).f) ((gt l i).f))))) (fun i hi => by
    unfold cb
    rw [decide_eq_true (by omega : ((i : Nat) : Int) < ((l.length : Nat) : Int)), cond_true]) (by
    unfold cb
    rw [decide_eq_false (by omega : ¬ ((l.length : Nat) : Int) < ((l.length : Nat) : Int))]
    rfl) (l.length - 0 + 1) 0 (Nat.zero_le _) (by omega) fun i _ _ => ?_)).trans rfl
  rw [he, decide_eq_true rfl]
  rfl
theorem jf (heq : ∀ a b, aU a b = true → a = b) {d u : List (U Qd)} (hp : d.Perm u) (hW : ∀ x ∈ u, Wv x.iv) (hD : u.Pairwise fun a b => Dj a.iv b.iv) : ae d = (aQ u, 0) := by
  have hWd : ∀ x ∈ d, Wv x.iv := fun x hx => hW x (hp.mem_iff.1 hx)
  obtain ⟨s1, s2⟩ := jj (fun x hx => (hWd x hx).1)
  have hps := s1.trans hp
  have hE := (kt (l := u.map (·.iv)) (fun i hi => by obtain ⟨x, hx, rfl⟩ := List.mem_map.1 hi; exact (hW x hx).1)).1
  rw [gW s1.length_eq fun i h0 h1 => (mw hW hps s2).2 hD i h0 (by rw [s1.length_eq]; exact h1), gX]
  have e1 : ab (aa d) = gC (fj (default : Qd) u (iT (u.map (·.iv)))) := by
    rw [jl]; exact atoms_eq hW hD hps s2
  unfold aQ
  rw [e1, iu, kZ, j9, loops_eq heq (kx hE)]
end Go.Sx
