/- A part of the proof that the law BracketQuestions/Checks answers true at every input and leaves its arguments as they were. -/
import Derived.Test.YtbnldpccdppmiaaGreatDoorKn3
import Derived.Test.YtbnldpccdppmiaaGreatDoorKx20
import Derived.Test.YtbnldpccdppmiaaGreatDoorKk2
set_option linter.unusedVariables false
set_option linter.unusedSimpArgs false
namespace Go.Sx
open Go Go.RowKit Go.Proofs
set_option maxRecDepth 100000
theorem kZ {x : GR} (hx : Tm x) : cH x = 0 := by
  have := tm_all (p := fun x => cH x == 0) (by decide +kernel) hx
  exact eq_of_beq this
theorem oJ {x : GR} (hx : Tm x) : RtR x := by
  obtain ⟨n, r, hn, rfl⟩ := hx
  cases r
  · unfold ae cj bS; exact .inl rfl
  · unfold ae; exact .inr rfl
theorem vcheck33 {i : Iv} (h : Wv i) : bN i = 0 := by
  have h1 := cmpB (a := am i) (b := ao i) (by rw [pf]; exact h.1.1) (by rw [pl]; exact h.1.2)
  rw [kn h.bd] at h1
  unfold bN
  rw [kZ h.1.1, kZ h.1.2, h1]
  rfl
structure Wl (p : List Iv) : Prop where
  wv : ∀ i ∈ p, Wv i
  len : p.length ≤ 200
theorem Cn.wl {p : List Iv} (h : Cn p) : Wl p := ⟨h.wv, Nat.le_trans h.len (by decide)⟩
theorem Wl.nil : Wl [] := ⟨fun _ h => (by cases h), by simp⟩
theorem Wl.sz {p : List Iv} (h : Wl p) : All (SzV 30) p := wv_sz h.wv
theorem ms {p : List Iv} {i : Nat} (h : i < p.length) : gt p i ∈ p := by rw [ot h]; exact List.getElem_mem h
theorem Cn.app {p : List Iv} (h : Cn p) {i : Nat} (hi : i < p.length) : Wl (p ++ [gt p i]) := ⟨fun x hx => by
  rcases List.mem_append.1 hx with h1 | h1
  · exact h.wv x h1
  · rw [List.mem_singleton.1 h1]; exact h.wv _ (ms hi), by rw [List.length_append]; have := h.len; simp; omega⟩
theorem Wl.rt {p : List Iv} (h : Wl p) (j : Nat) : RtV (gt p j) := by
  by_cases hj : j < p.length
  · have := h.wv _ (ms hj); exact ⟨oJ this.1.1, oJ this.1.2⟩
  · rw [show gt p j = default from by unfold gt; rw [List.getD_eq_getElem?_getD, List.getElem?_eq_none (by omega)]; rfl]; exact ⟨.inl rfl, .inl rfl⟩
theorem lU {p : List Iv} (h : Cn p) : aH p = 0 := by
  unfold aH
  refine (fe (mK (n := p.length) (r := (0 : Int)) (bad := fun _ => false) (fun i hi => ?_) ?_ (p.length - 0 + 1) 0 (Nat.zero_le _) (by omega) (fun _ _ _ => rfl))).trans rfl
  · show cB p i = .go (i + 1)
    unfold cB
    rw [decide_eq_true (by omega : ((i : Nat) : Int) < ((p.length : Nat) : Int)), cond_true, vcheck33 (h.wv _ (ms hi))]
    by_cases h0 : i = 0
    · subst h0; rfl
    · have hs := List.pairwise_iff_getElem.1 h.sep (i - 1) i (by omega) hi (by omega)
      rw [← ot (by omega : i - 1 < p.length), ← ot hi] at hs
      have w1 := h.wv _ (ms hi)
      have w0 := h.wv _ (ms (by omega : i - 1 < p.length))
      have h1 := cmpB (a := ao (gt p (i - 1))) (b := am (gt p i)) (by rw [pl]; exact w0.1.2) (by rw [pf]; exact w1.1.1)
      rw [kn hs] at h1
      rw [h1, w1.1.1.cmp w0.1.2, show ((((i : Nat) : Int)) == (((0 : Nat) : Int))) = false from beq_eq_false_iff_ne.2 (by omega)]
      rw [pf, pl] at hs
      have hs : 2 * tk (gt p (i - 1)).hi + (bif !(gt p (i - 1)).openHi then 1 else 0) < 2 * tk (gt p i).lo + (bif (gt p i).openLo then 1 else 0) := hs
      have b1 := bb (!(gt p (i - 1)).openHi)
      have b2 := bb (gt p i).openLo
      rcases Nat.lt_or_eq_of_le (by omega : tk (gt p (i - 1)).hi ≤ tk (gt p i).lo) with e | e
      · rw [k6 e]; rfl
      · rw [e, ie]; rfl
  · show cB p p.length = _
    unfold cB
    rw [decide_eq_false (by omega : ¬ ((p.length : Nat) : Int) < ((p.length : Nat) : Int))]; rfl
theorem or3 (a b c : Int) : dP [a, b, c] = bif (a != 0) then a else bif (b != 0) then b else c := by
  have e0 : de [a, b, c] 0 = bif (a != 0) then .ret a else .go 1 := rfl
  have e1 : de [a, b, c] 1 = bif (b != 0) then .ret b else .go 2 := rfl
  have e2 : de [a, b, c] 2 = bif (c != 0) then .ret c else .go 3 := rfl
  have e3 : de [a, b, c] 3 = .out 3 := rfl
  unfold dP
  show fin (cd (fun s => de [a, b, c] s) 4 0) _ _ = _
  unfold cd
  simp only [e0]
  cases ha : (a != 0)
  · simp only [cond_false]
    unfold cd
    simp only [e1]
    cases hb : (b != 0)
    · simp only [cond_false]
      unfold cd
      simp only [e2]
      cases hc : (c != 0)
      · simp only [cond_false]
        unfold cd
        simp only [e3]
        have : c = 0 := by rw [bne_eq_false_iff_eq] at hc; exact hc
        rw [this]; rfl
      · rfl
    · rfl
  · rfl
theorem fM (p : List Iv) (pv : Value) (cp : Wl p) (w0 : World) (hpv : View w0 pv p) : Calls Tryz.prog 39 #[pv] w0 (RetP w0 (.int .i64 (aH p)) True) :=
  ku p pv (Nat.le_trans cp.len (by decide)) cp.rt cp.sz w0 hpv
theorem gM (a : List Iv) (av : Value) (b : List Iv) (bv : Value) (ca : Wl a) (cb : Wl b) (w0 : World) (hav : View w0 av a) (hbv : View w0 bv b) : Calls Tryz.prog 41 #[av, bv] w0 (RetP w0 (.bool (aT a b)) True) :=
  j4 a av b bv ca.len cb.len ca.wv cb.wv ca.sz cb.sz w0 hav hbv
def cK (a b c : List Iv) : Int :=
  bif (dP [aH a, aH b, aH c] != 0) then dP [aH a, aH b, aH c]
  else bif ((!(aT c b)) || (!(aT a c))) then 2 else 0
section
variable {a b c d y m : List Iv}
theorem bne0 {x : Int} (h : ¬ x = 0) : (x != 0) = true := bne_iff_ne.2 h
theorem bcE0 (h : ¬ aH a = 0) : ((cK a b c) == (aH a)) = true := by
  unfold cK; rw [or3, bne0 h, cond_true, bne0 h, cond_true]; exact beq_self_eq_true _
theorem bcE1 (h0 : aH a = 0) (h : ¬ aH b = 0) : ((cK a b c) == (aH b)) = true := by
  unfold cK; rw [or3, h0, show (((0 : Int) != 0) = false) from rfl, cond_false, bne0 h, cond_true, bne0 h, cond_true]; exact beq_self_eq_true _
theorem bcE2 (h0 : aH a = 0) (h1 : aH b = 0) (h : ¬ aH c = 0) : ((cK a b c) == (aH c)) = true := by
  unfold cK; rw [or3, h0, h1, show (((0 : Int) != 0) = false) from rfl, cond_false, cond_false, bne0 h, cond_true]; exact beq_self_eq_true _
theorem bcW1 (h0 : aH a = 0) (h1 : aH b = 0) (h2 : aH c = 0) (h : ((!(aT c b)) || (!(aT a c))) = true) : ((cK a b c) == (2 : Int)) = true := by
  unfold cK; rw [or3, h0, h1, h2, h]; rfl
theorem bcW0 (h0 : aH a = 0) (h1 : aH b = 0) (h2 : aH c = 0) (h : ((!(aT c b)) || (!(aT a c))) = false) : ((cK a b c) == (0 : Int)) = true := by
  unfold cK; rw [or3, h0, h1, h2, h]; rfl
theorem bc_of (hd : Cn d) (hy : Cn y) (hm : Cn m) : ((cK d (af (af d y) m) (af d y)) == (0 : Int)) = true := by
  have c1 := Cn.inter hd hy
  refine bcW0 (lU hd) (lU (c1.inter hm)) (lU c1) ?_
  rw [(jT c1.wv (c1.inter hm).wv).2 (inL c1 hm), (jT hd.wv c1.wv).2 (inL hd hy)]
  rfl
end
end Go.Sx
