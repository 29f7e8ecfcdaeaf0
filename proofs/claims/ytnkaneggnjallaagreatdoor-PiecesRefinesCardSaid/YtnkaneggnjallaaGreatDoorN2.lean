/- A part of the proof that the law PiecesRefines answers true at every input and leaves its arguments as they were. -/
import Derived.Test.YtnkaneggnjallaaGreatDoorProg
import Derived.Test.YtnkaneggnjallaaGreatDoorN1
import Derived.Test.YtnkaneggnjallaaGreatDoorM4
import Derived.Test.YtnkaneggnjallaaGreatDoorX
import Derived.Test.YtnkaneggnjallaaGreatDoorY
set_option linter.unusedVariables false
set_option linter.unusedSimpArgs false
namespace Go.Sx
theorem tm_all {p : GR → Bool} (h : ((List.range 45).all fun i => p (ad (Int.ofNat i) false) && p (ad (Int.ofNat i) true)) = true) {x : GR} (hx : Tm x) : p x = true := by
  obtain ⟨n, r, hn, rfl⟩ := hx
  have h1 := List.all_eq_true.1 h n (List.mem_range.2 hn)
  rw [Bool.and_eq_true] at h1
  cases r
  · exact h1.1
  · exact h1.2
theorem inst_f (n : Int) : ad n false = ⟨aj n, zQ, false⟩ := by
  unfold ad bF bU; rfl
theorem inst_t (n : Int) : ad n true = ⟨aj n, aj 2, false⟩ := by
  unfold ad; rfl
theorem kf {x : GR} (hx : Tm x) : TOk x := by
  obtain ⟨n, r, hn, rfl⟩ := hx
  cases r
  · rw [inst_f]; exact ⟨(fM _).1, i4.1⟩
  · rw [inst_t]; exact ⟨(fM _).1, (fM 2).1⟩
theorem nL (a b : Qd) : cg a b = true ↔ a = b := by
  unfold cg
  simp
theorem quads_ru : Ru DOk aK aG := by
  have s : ∀ f g t, aK f g t = bE f g t := fun _ _ _ => by unfold aK; rfl
  have r : ∀ f t, aG f t = aP f t := fun _ _ => by unfold aG; rfl
  refine ⟨fun t ht f hf => ?_, fun t ht f g hf hg h => ?_, fun t ht f g e hf hg he h1 h2 => ?_, fun t ht f hf => ?_, fun t ht f hf => ?_, fun t ht f hf => ?_⟩
  · rw [s, iL hf hf (kf ht)]
  · rw [s, iL hf hg (kf ht)] at h
    rw [s, iL hg hf (kf ht), h]
  · rw [s, iL hf hg (kf ht)] at h1
    rw [s, iL hg he (kf ht)] at h2
    rw [s, iL hf he (kf ht), h1, h2]
  · rw [r]; exact (gZ hf (kf ht)).1
  · rw [s, r, iL (gZ hf (kf ht)).1 hf (kf ht)]; exact jU hf (kf ht)
  · rw [r, r, pR (gZ hf (kf ht)).1 hf (kf ht)]; exact jU hf (kf ht)
theorem fs_ok {f : Qd} (h : Fs f) : DOk f := by
  rcases h with rfl | ⟨s, rfl⟩ | ⟨c, rfl⟩
  · exact ⟨i4.1, i4.1, i4.1⟩
  · unfold ag
    exact ⟨(fM _).1, (fM _).1, (fM _).1⟩
  · unfold aA
    exact ⟨(fM _).1, i4.1, i4.1⟩
theorem lz {α : Type} : ∀ (u : List (U α)) (a : At α), (jK u a).has = true → a.has = true ∧ (jK u a).f = a.f ∨ ∃ x ∈ u, (jK u a).f = x.f
  | [], a, h => .inl ⟨h, rfl⟩
  | x :: u, a, h => by
    rcases lz u (j7 x a) h with ⟨h1, h2⟩ | ⟨y, hy, h2⟩
    · have h2 : (jK (x :: u) a).f = (j7 x a).f := h2
      unfold j7 at h1 h2
      cases hi : cm x.iv a.frm a.til a.gap with
      | true => rw [hi] at h2; exact .inr ⟨x, List.mem_cons_self .., h2⟩
      | false => rw [hi] at h1 h2; exact .inl ⟨h1, h2⟩
    · exact .inr ⟨y, List.mem_cons_of_mem _ hy, h2⟩
theorem qa {u : List (U Qd)} (hW : ∀ x ∈ u, Wv x.iv ∧ DOk x.f) : NF cg aK aG (aJ u) ∧ ∀ x ∈ aJ u, DOk x.f := by
  have hE := (mE (l := u.map (·.iv)) (fun i hi => by obtain ⟨x, hx, rfl⟩ := List.mem_map.1 hi; exact (hW x hx).1.1)).1
  unfold aJ
  rw [ka, nq, lY]
  have hA := k6 (z := (default : Qd)) (u := u) hE
  have hl : (f5 (default : Qd) u (iG (u.map (·.iv)))).length = (eR (default : Qd) (iG (u.map (·.iv)))).length := by unfold f5; rw [List.length_map]
  refine ml quads_ru (fun a b => (nL a b).1) hA (fun i hi => ?_) (fun i hi hh => ?_) _ (Nat.le_refl _)
  · rw [iR hi, (eW u _).1, (eW u _).2.2]
    have := mS (z := (default : Qd)) hE (a := gt (eR default (iG (u.map (·.iv)))) i) (by rw [jI (hl ▸ hi)]; exact List.getElem_mem _)
    exact ⟨this.1, this.2.1⟩
  · rw [iR hi] at hh ⊢
    rcases lz u _ hh with ⟨h1, _⟩ | ⟨x, hx, h2⟩
    · have hb : gt (eR (default : Qd) (iG (u.map (·.iv)))) i ∈ eR (default : Qd) (iG (u.map (·.iv))) := by rw [jI (hl ▸ hi)]; exact List.getElem_mem _
      rcases kT.1 hb with ⟨t, _, e⟩ | ⟨t, t', _, e⟩
      · rw [e] at h1; cases h1
      · rw [e] at h1; cases h1
    · rw [h2]; exact (hW x hx).2
end Go.Sx
namespace Go.Sx
section
variable {α : Type} [Inhabited α] {eqf : α → α → Bool} {same : α → α → GR → Bool} {red : α → GR → α} {L out : List (U α)} {x : Nat} {t t' : GR} {f : α}
def Vl (out : List (U α)) : Prop := ∀ u ∈ out, Tv u.iv ∧ tk u.iv.lo ≤ tk u.iv.hi
omit [Inhabited α] in
theorem Vl.app {y : U α} (h : Vl out) (h1 : Tv y.iv) (h2 : tk y.iv.lo ≤ tk y.iv.hi) : Vl (out ++ [y]) := fun u hu => by
  rcases List.mem_append.1 hu with hu | hu
  · exact h u hu
  · rw [List.mem_singleton.1 hu]; exact ⟨h1, h2⟩
omit [Inhabited α] in
theorem Vl.set {y : U α} {i : Nat} (h : Vl out) (h1 : Tv y.iv) (h2 : tk y.iv.lo ≤ tk y.iv.hi) : Vl (out.set i y) := fun u hu => by
  rcases List.mem_or_eq_of_mem_set hu with hu | rfl
  · exact h u hu
  · exact ⟨h1, h2⟩
theorem qQ {A : List (At α)} : ∀ k, k ≤ A.length → ∀ u ∈ hQ (dT eqf same red A) [] k, ∃ i, i < A.length ∧ (gt A i).has = true ∧ (u.f = (gt A i).f ∨ u.f = red (gt A i).f (gt A i).frm)
  | 0, _, u, hu => by cases hu
  | k + 1, hk, u, hu => by
    have ih : ∀ u ∈ hQ (dT eqf same red A) [] k, ∃ i, i < A.length ∧ (gt A i).has = true ∧ (u.f = (gt A i).f ∨ u.f = red (gt A i).f (gt A i).frm) := qQ k (by omega)
    have hu : u ∈ dT eqf same red A (hQ (dT eqf same red A) [] k) k := hu
    generalize hQ (dT eqf same red A) [] k = out at *
    have hset : ∀ (y : U α), 0 < out.length → y.f = (lst out).f → u ∈ out.set (out.length - 1) y → ∃ i, i < A.length ∧ (gt A i).has = true ∧ (u.f = (gt A i).f ∨ u.f = red (gt A i).f (gt A i).frm) := fun y h0 e hu => by
      rcases mq hu with hu | rfl
      · exact ih u hu
      · rw [e]; exact ih _ (mt h0)
    have hset : ∀ (y : U α), y.f = (lst out).f → u ∈ out.set (out.length - 1) y → ∃ i, i < A.length ∧ (gt A i).has = true ∧ (u.f = (gt A i).f ∨ u.f = red (gt A i).f (gt A i).frm) := fun y e hu => by
      by_cases h0 : 0 < out.length
      · exact hset y h0 e hu
      · rw [List.eq_nil_of_length_eq_zero (by omega : out.length = 0)] at hu; cases hu
    cases hh : (gt A k).has with
    | false =>
      unfold dT at hu
      rw [hh] at hu; exact ih u hu
    | true =>
      have happ : ∀ (y : U α), (y.f = (gt A k).f ∨ y.f = red (gt A k).f (gt A k).frm) → u ∈ out ++ [y] → ∃ i, i < A.length ∧ (gt A i).has = true ∧ (u.f = (gt A i).f ∨ u.f = red (gt A i).f (gt A i).frm) := fun y e hu => by
        rcases List.mem_append.1 hu with hu | hu
        · exact ih u hu
        · rw [List.mem_singleton.1 hu]; exact ⟨k, by omega, hh, e⟩
      unfold dT at hu
      rw [hh, Bool.not_true, cond_false] at hu
      cases hg : (gt A k).gap with
      | true =>
        rw [hg, cond_true] at hu
        revert hu
        generalize (((((decide (((k : Nat) : Int) ≥ 2)) && (gt A (k - 2)).has) && (gt A (k - 1)).has) && (same ((gt A (k - 2)).f) ((gt A (k - 1)).f) ((gt A k).frm))) && (eqf ((gt A (k - 2)).f) ((gt A k).f))) = c
        intro hu
        cases c
        · exact happ _ (.inl rfl) hu
        · rw [cond_true] at hu; exact hset ⟨⟨(lst out).iv.lo, (gt A k).til, (lst out).iv.openLo, true⟩, (lst out).f⟩ rfl hu
      | false =>
        rw [hg, cond_false] at hu
        revert hu
        generalize (((decide (((k : Nat) : Int) > 0)) && (gt A (k - 1)).has) && (same ((gt A (k - 1)).f) ((gt A k).f) ((gt A k).frm))) = c
        generalize (((decide (((k + 1 : Nat) : Int) < ((A.length : Nat) : Int))) && (gt A (k + 1)).has) && (same ((gt A (k + 1)).f) ((gt A k).f) ((gt A k).frm))) = c2
        intro hu
        cases c
        · cases c2
          · exact happ _ (.inr rfl) hu
          · exact ih u hu
        · rw [cond_true] at hu; exact hset ⟨⟨(lst out).iv.lo, (lst out).iv.hi, (lst out).iv.openLo, false⟩, (lst out).f⟩ rfl hu
end
end Go.Sx
namespace Go.Sx
theorem bld_ok (l : List Stp) : ∀ x ∈ aw l, Wv x.iv ∧ DOk x.f := fun x hx => ⟨((kW l).1 x hx).1, fs_ok ((kW l).1 x hx).2⟩
theorem bn_nf (l : List Stp) : NF cg aK aG (aJ (aw l)) ∧ ∀ x ∈ aJ (aw l), DOk x.f := qa (bld_ok l)
theorem nB {k m : Nat} (hm : m < 18446744073709551616) (hk : k ≤ 43) : SzB k m := by
  have h8 : (le m).length ≤ 8 := (dH 8 m).2 hm
  have h2 : 2 ^ k ≤ 2 ^ 43 := Nat.pow_le_pow_right (by decide) hk
  unfold SzB
  exact Nat.le_trans (Nat.mul_le_mul h8 h2) (by decide)
def smI (a : GI) : Bool := decide (a.mag < 18446744073709551616)
def smQ (a : GQ) : Bool := smI a.num && smI a.den
def smD (f : Qd) : Bool := smQ f.c0 && (smQ f.c1 && smQ f.c2)
theorem mW {a : GQ} (h : smQ a = true) : SzQ 40 a := by
  unfold smQ smI at h
  rw [Bool.and_eq_true, decide_eq_true_eq, decide_eq_true_eq] at h
  exact ⟨nB h.1 (by decide), nB h.2 (by decide)⟩
theorem smD_sz {f : Qd} (h : smD f = true) : SzD 40 f := by
  unfold smD at h
  rw [Bool.and_eq_true, Bool.and_eq_true] at h
  exact ⟨mW h.1, mW h.2.1, mW h.2.2⟩
theorem tm_sz {x : GR} (h : Tm x) : SzR 40 x := by
  have := tm_all (p := fun x => smQ x.p && smQ x.r) (by decide +kernel) h
  rw [Bool.and_eq_true] at this
  exact ⟨mW this.1, mW this.2⟩
def J3 : List Int := [-3, -2, -1, 0, 1, 2, 3]
def J2 : List Int := [-2, -1, 0, 1, 2]
def J1 : List Int := [-1, 0, 1]
def qd (a b c : Int) : Qd := ⟨aj a, aj b, aj c⟩
theorem j3 (x : Int) : Int.tmod x 4 ∈ J3 := by
  have := nE x 4 (by decide)
  generalize Int.tmod x 4 = y at *
  simp [J3]; omega
theorem j2 (x : Int) : Int.tmod x 3 ∈ J2 := by
  have := nE x 3 (by decide)
  generalize Int.tmod x 3 = y at *
  simp [J2]; omega
theorem j1 (x : Int) : Int.tmod x 2 ∈ J1 := by
  have := nE x 2 (by decide)
  generalize Int.tmod x 2 = y at *
  simp [J1]; omega
theorem fs_qd {f : Qd} (h : Fs f) : ∃ a ∈ J3, ∃ b ∈ J2, ∃ c ∈ J1, f = qd a b c := by
  rcases h with rfl | ⟨s, rfl⟩ | ⟨c, rfl⟩
  · exact ⟨0, by decide, 0, by decide, 0, by decide, rfl⟩
  · refine ⟨_, j3 s.c0, _, j2 s.c1, _, j1 s.c2, ?_⟩
    unfold ag; rfl
  · refine ⟨_, j3 c, 0, by decide, 0, by decide, ?_⟩
    unfold aA; rfl
def smAll (x : GR) : Bool := J3.all fun a => J2.all fun b => J1.all fun c => smD (aP (qd a b c) x)
theorem red_sz {f : Qd} {x : GR} (hf : Fs f) (hx : Tm x) : SzD 40 (aG f x) := by
  obtain ⟨a, ha, b, hb, c, hc, rfl⟩ := fs_qd hf
  have h := tm_all (p := smAll) (by decide +kernel) hx
  unfold smAll at h
  have := List.all_eq_true.1 (List.all_eq_true.1 (List.all_eq_true.1 h a ha) b hb) c hc
  unfold aG
  exact smD_sz this
theorem fs_sz {f : Qd} (hf : Fs f) : SzD 40 f := by
  obtain ⟨a, ha, b, hb, c, hc, rfl⟩ := fs_qd hf
  have h : (J3.all fun a => J2.all fun b => J1.all fun c => smD (qd a b c)) = true := by decide +kernel
  exact smD_sz (List.all_eq_true.1 (List.all_eq_true.1 (List.all_eq_true.1 h a ha) b hb) c hc)
theorem bn_sz (l : List Stp) : All (i3 30) (aJ (aw l)) := fun x hx => by
  have hw := (bn_nf l).1.wv x hx
  refine ⟨⟨df (tm_sz hw.1.1) (by decide), df (tm_sz hw.1.2) (by decide)⟩, cL (j := 30) (k := 40) ?_ (by decide)⟩
  have hE := (mE (l := (aw l).map (·.iv)) (fun i hi => by obtain ⟨x, hx, rfl⟩ := List.mem_map.1 hi; exact (bld_ok l x hx).1.1)).1
  unfold aJ at hx
  rw [ka, nq, lY] at hx
  obtain ⟨i, hi, hh, hf⟩ := qQ _ (Nat.le_refl _) x hx
  have hl : (f5 (default : Qd) (aw l) (iG ((aw l).map (·.iv)))).length = (eR (default : Qd) (iG ((aw l).map (·.iv)))).length := by unfold f5; rw [List.length_map]
  have hb : gt (eR (default : Qd) (iG ((aw l).map (·.iv)))) i ∈ eR (default : Qd) (iG ((aw l).map (·.iv))) := by rw [jI (hl ▸ hi)]; exact List.getElem_mem _
  have hT := (mS hE hb).1
  rw [iR hi] at hh hf
  have hfs : Fs (jK (aw l) (gt (eR default (iG ((aw l).map (·.iv)))) i)).f := by
    rcases lz _ _ hh with ⟨h1, _⟩ | ⟨y, hy, h2⟩
    · rcases kT.1 hb with ⟨t, _, e⟩ | ⟨t, t', _, e⟩
      · rw [e] at h1; cases h1
      · rw [e] at h1; cases h1
    · rw [h2]; exact ((kW l).1 y hy).2
  rcases hf with e | e
  · rw [e]; exact fs_sz hfs
  · rw [e, (eW _ _).1]; exact red_sz hfs hT
end Go.Sx
