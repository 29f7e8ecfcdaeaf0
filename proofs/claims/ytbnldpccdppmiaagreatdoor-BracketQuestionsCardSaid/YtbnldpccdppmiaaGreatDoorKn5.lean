/- A part of the proof that the law BracketQuestions/Checks answers true at every input and leaves its arguments as they were. -/
import Derived.Test.YtbnldpccdppmiaaGreatDoorKn4
set_option linter.unusedVariables false
set_option linter.unusedSimpArgs false
namespace Go.Sx
open Go Go.RowKit Go.Proofs
set_option maxRecDepth 100000
theorem d_iff {d : Int} (h : -220 ≤ d ∧ d < 220) (r s : Bool) : (dcmp d r s ≤ 0) ↔ (dkey d r s ≤ 0) := by
  have key : ∀ (a n : Nat), dall a n = true → ∀ i, i < n → (decide (dcmp (Int.ofNat (a + i) - 220) r s ≤ 0) == decide (dkey (Int.ofNat (a + i) - 220) r s ≤ 0)) = true := by
    intro a n ha i hi
    unfold dall at ha
    have h1 := List.all_eq_true.1 ha i (List.mem_range.2 hi)
    have h2 := List.all_eq_true.1 h1 r (by cases r <;> simp)
    exact List.all_eq_true.1 h2 s (by cases s <;> simp)
  have fin_ : ∀ k : Nat, d = Int.ofNat k - 220 → (decide (dcmp (Int.ofNat k - 220) r s ≤ 0) == decide (dkey (Int.ofNat k - 220) r s ≤ 0)) = true → ((dcmp d r s ≤ 0) ↔ (dkey d r s ≤ 0)) := by
    intro k e h1
    rw [← e] at h1
    exact decide_eq_decide.1 (eq_of_beq h1)
  by_cases hd : d < 0
  · refine fin_ (0 + (d + 220).toNat) ?_ (key 0 220 dall1 _ (by omega))
    rw [Int.ofNat_eq_natCast]; omega
  · refine fin_ (220 + d.toNat) ?_ (key 220 220 dall2 _ (by omega))
    rw [Int.ofNat_eq_natCast]; omega
def oe (h : Int) : GQ := (au h 2).1
theorem sh_mono {x x' y y' : GR} {h : Int} (hx : Tm x) (hx' : Tm x') (hy : Tm y) (hy' : Tm y') (hh : -128 ≤ h ∧ h ≤ 127) (h1 : tk x' ≤ tk x) (h2 : tk y ≤ tk y')
    (hc : aY (du x (oe h)) y ≤ 0) : aY (du x' (oe h)) y' ≤ 0 := by
  obtain ⟨n, r, hn, rfl⟩ := hx
  obtain ⟨n', r', hn', rfl⟩ := hx'
  obtain ⟨m, s, hm, rfl⟩ := hy
  obtain ⟨m', s', hm', rfl⟩ := hy'
  rw [lq n r hn, lq n' r' hn'] at h1
  rw [lq m s hm, lq m' s' hm'] at h2
  unfold oe at hc ⊢
  rw [l7, d_iff (by omega)] at hc
  rw [l7, d_iff (by omega)]
  unfold dkey at hc ⊢
  cases r <;> cases r' <;> cases s <;> cases s' <;> simp only [cond_true, cond_false] at h1 h2 hc ⊢ <;> omega
def long (L : GQ) (i : Iv) : Bool := decide (aY (du i.lo L) i.hi ≤ 0)
theorem pu (p : List Iv) (L : GQ) : dL p L = p.filter (long L) := by
  have h1 := fo (R := List Iv) (f := fun (o : List Iv) (u : Iv) => o ++ (bif long L u then [u] else [])) p (B := fun s => cM p L s.1 s.2) (fun o i hi => by
    show cM p L o i = _
    unfold cM
    rw [decide_eq_true (by omega : ((i : Nat) : Int) < ((p.length : Nat) : Int)), cond_true]
    show (bif long L (gt p i) then _ else _) = _
    cases long L (gt p i)
    · rw [cond_false, cond_false, List.append_nil]
    · rfl) (fun o => by
    show cM p L o p.length = _
    unfold cM
    rw [decide_eq_false (by omega : ¬ ((p.length : Nat) : Int) < ((p.length : Nat) : Int))]; rfl) p [] [] (p.length - 0 + 1) rfl (by omega)
  rw [fm] at h1
  unfold dL
  refine (fe h1).trans ?_
  show fX p L _ _ = _
  unfold fX
  rw [List.nil_append]
  clear h1
  show (p.flatMap fun u => bif long L u then [u] else []) = _
  induction p with
  | nil => rfl
  | cons i p ih =>
    rw [List.flatMap_cons, List.filter_cons, ih]
    cases long L i
    · rfl
    · rfl
section
variable {a b p q t0 t1 t2 x : List Iv} {L : GQ}
theorem ld : decide ((((dL p L).length : Nat) : Int) > 0) = true ↔ ∃ i ∈ p, long L i = true := by
  rw [pu, decide_eq_true_eq]
  constructor
  · intro h
    obtain ⟨i, hi⟩ := List.exists_mem_of_length_pos (l := p.filter (long L)) (by omega)
    obtain ⟨h1, h2⟩ := List.mem_filter.1 hi
    exact ⟨i, h1, h2⟩
  · rintro ⟨i, h1, h2⟩
    have := List.length_pos_of_mem (List.mem_filter.2 ⟨h1, h2⟩)
    omega
theorem nj {R : Iv → Iv → Prop} : ∀ {l : List Iv}, l.Pairwise R → ∀ {i j : Iv}, i ∈ l → j ∈ l → i = j ∨ R i j ∨ R j i
  | [], _, _, _, h, _ => by cases h
  | k :: l, hp, i, j, hi, hj => by
    have h := List.pairwise_cons.1 hp
    rcases List.mem_cons.1 hi with e1 | hi2 <;> rcases List.mem_cons.1 hj with e2 | hj2
    · exact .inl (e1.trans e2.symm)
    · subst e1; exact .inr (.inl (h.1 j hj2))
    · subst e2; exact .inr (.inr (h.1 i hi2))
    · exact nj h.2 hi2 hj2
theorem within (cp : Cn p) (cq : Cn q) (h : ∀ x, inP p x → inP q x) {i : Iv} (hi : i ∈ p) : ∃ j ∈ q, tk j.lo ≤ tk i.lo ∧ tk i.hi ≤ tk j.hi := by
  have bi := (cp.wv i hi).bd
  obtain ⟨j, hj, h1, h2⟩ := h _ ⟨i, hi, Nat.le_refl _, bi⟩
  have hlast : kB (ao i) ≤ kB (ao j) := Classical.byContradiction fun hn => by
    obtain ⟨k, hk, h3, h4⟩ := h (kB (ao j)) ⟨i, hi, by omega, by omega⟩
    rcases nj cq.sep hj hk with e | e | e
    · subst e; omega
    · omega
    · have := (cq.wv j hj).bd; have := (cq.wv k hk).bd; omega
  refine ⟨j, hj, ?_, ?_⟩
  · rw [pf, pf] at h1
    have h1 : 2 * tk j.lo + (bif j.openLo then 1 else 0) ≤ 2 * tk i.lo + (bif i.openLo then 1 else 0) := h1
    have := bb j.openLo; have := bb i.openLo; omega
  · rw [pl, pl] at hlast
    have h1 : 2 * tk i.hi + (bif !i.openHi then 1 else 0) ≤ 2 * tk j.hi + (bif !j.openHi then 1 else 0) := hlast
    have := bb (!i.openHi); have := bb (!j.openHi); omega
theorem iO (ca : Cn a) : decide (((a.length : Nat) : Int) > 0) = true ↔ ∃ x, inP a x := by
  rw [decide_eq_true_eq]
  have := ca.empty
  constructor
  · intro h
    refine Classical.byContradiction fun hn => ?_
    have := this.2 fun x hx => hn ⟨x, hx⟩
    omega
  · rintro ⟨x, hx⟩
    refine Classical.byContradiction fun hn => ?_
    exact this.1 (by omega) x hx
theorem iP {h : Int} (hh : -128 ≤ h ∧ h ≤ 127) (cp : Cn p) (cq : Cn q) (hs : ∀ x, inP p x → inP q x) (hp : ba p (oe h) = true) : ba q (oe h) = true := by
  unfold ba at hp ⊢
  cases hc : decide (aI (oe h) ≤ 0) with
  | true =>
    rw [hc, cond_true] at hp
    rw [cond_true]
    obtain ⟨x, hx⟩ := (iO cp).1 hp
    exact (iO cq).2 ⟨x, hs x hx⟩
  | false =>
    rw [hc, cond_false] at hp
    rw [cond_false]
    obtain ⟨i, hi, hl⟩ := ld.1 hp
    obtain ⟨j, hj, h1, h2⟩ := within cp cq hs hi
    refine ld.2 ⟨j, hj, decide_eq_true ?_⟩
    exact sh_mono (cp.wv i hi).1.1 (cq.wv j hj).1.1 (cp.wv i hi).1.2 (cq.wv j hj).1.2 hh h1 h2 (of_decide_eq_true hl)
theorem rt {y m x : Bool} (h1 : y = true → x = true) (h2 : x = true → m = true) : dE (aF y (!m)) x = true := by
  unfold dE aF
  cases y <;> cases m <;> cases x <;> first | rfl | (exact absurd (h1 rfl) (by decide)) | (exact absurd (h2 rfl) (by decide))
theorem un {y m : Bool} (h : y = true → m = true) : (((aF y (!m)) == (0 : Int)) == (y != m)) = true := by
  unfold aF
  cases y <;> cases m <;> first | rfl | (exact absurd (h rfl) (by decide))
theorem emp_is (a : List Iv) : ((((a.length : Nat) : Int)) == (((0 : Nat) : Int))) = !(decide (((a.length : Nat) : Int) > 0)) := by
  by_cases h : a.length = 0
  · rw [h]; rfl
  · rw [decide_eq_true (by omega : ((a.length : Nat) : Int) > 0), beq_eq_false_iff_ne.2 (by omega)]; rfl
theorem gC (ca : Cn a) (cb : Cn b) : ((((aU a b).length : Nat) : Int) == (((0 : Nat) : Int))) = true ↔ ∀ x, inP a x → inP b x := by
  have := (jT cb.wv ca.wv)
  unfold aT at this
  exact this
theorem nB (ca : Cn a) (cb : Cn b) (h : ∀ x, inP a x → inP b x) : aX a b = ((((aU b a).length : Nat) : Int) == (((0 : Nat) : Int))) := by
  rw [equal_is]
  refine Bool.eq_iff_iff.2 ?_
  rw [decide_eq_true_eq, gC cb ca]
  exact ⟨fun e => by subst e; exact fun _ => id, fun h2 => Cn.ext ca cb fun x => ⟨h x, h2 x⟩⟩
variable (c0 : Cn t0) (c1 : Cn t1) (c2 : Cn t2) (cx : Cn x) (s1 : ∀ y, inP t1 y → inP x y) (s2 : ∀ y, inP x y → inP t2 y) (s3 : ∀ y, inP t2 y → inP t0 y)
include c1 c2 cx s1 s2
theorem qs_right : dE (aF (decide (((t1.length : Nat) : Int) > 0)) ((((t2.length : Nat) : Int)) == (((0 : Nat) : Int)))) (decide (((x.length : Nat) : Int) > 0)) = true := by
  rw [emp_is]
  exact rt (fun h => by obtain ⟨y, hy⟩ := (iO c1).1 h; exact (iO cx).2 ⟨y, s1 y hy⟩) (fun h => by obtain ⟨y, hy⟩ := (iO cx).1 h; exact (iO c2).2 ⟨y, s2 y hy⟩)
theorem qs_un : (((aF (decide (((t1.length : Nat) : Int) > 0)) ((((t2.length : Nat) : Int)) == (((0 : Nat) : Int)))) == (0 : Int)) == ((decide (((t1.length : Nat) : Int) > 0)) != (decide (((t2.length : Nat) : Int) > 0)))) = true := by
  have _ := cx
  rw [emp_is]
  exact un fun h => by obtain ⟨y, hy⟩ := (iO c1).1 h; exact (iO c2).2 ⟨y, s2 y (s1 y hy)⟩
theorem ql_right {h : Int} (hh : -128 ≤ h ∧ h ≤ 127) : dE (aF (ba t1 (oe h)) (!(ba t2 (oe h)))) (ba x (oe h)) = true :=
  rt (iP hh c1 cx s1) (iP hh cx c2 s2)
theorem ql_un {h : Int} (hh : -128 ≤ h ∧ h ≤ 127) : (((aF (ba t1 (oe h)) (!(ba t2 (oe h)))) == (0 : Int)) == ((ba t1 (oe h)) != (ba t2 (oe h)))) = true :=
  have _ := cx
  un (iP hh c1 c2 fun y hy => s2 y (s1 y hy))
include c0 s3
theorem qa_right : dE (aF (aX t1 t0) (!(aX t2 t0))) ((((aU t0 x).length : Nat) : Int) == (((0 : Nat) : Int))) = true := by
  rw [nB c1 c0 (fun y hy => s3 y (s2 y (s1 y hy))), nB c2 c0 s3]
  exact rt (fun h => (gC c0 cx).2 fun y hy => s1 y ((gC c0 c1).1 h y hy)) (fun h => (gC c0 c2).2 fun y hy => s2 y ((gC c0 cx).1 h y hy))
theorem qa_un : (((aF (aX t1 t0) (!(aX t2 t0))) == (0 : Int)) == (((((aU t0 t1).length : Nat) : Int) == (((0 : Nat) : Int))) != ((((aU t0 t2).length : Nat) : Int) == (((0 : Nat) : Int))))) = true := by
  have _ := cx
  rw [nB c1 c0 (fun y hy => s3 y (s2 y (s1 y hy))), nB c2 c0 s3]
  exact un fun h => (gC c0 c2).2 fun y hy => s2 y (s1 y ((gC c0 c1).1 h y hy))
end
end Go.Sx
