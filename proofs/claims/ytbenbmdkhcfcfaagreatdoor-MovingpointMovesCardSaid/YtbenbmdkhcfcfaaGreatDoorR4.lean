/- A part of the proof of movingpointMoves. -/
import Derived.Test.YtbenbmdkhcfcfaaGreatDoorR3
import Derived.Test.YtbenbmdkhcfcfaaGreatDoorQ8
import Derived.Test.YtbenbmdkhcfcfaaGreatDoorR2
import Derived.Test.YtbenbmdkhcfcfaaGreatDoorQ9
import Derived.Shelf.SlSortCmp.WholeK
import Derived.Test.YtbenbmdkhcfcfaaGreatDoorQ1
set_option linter.unusedVariables false
set_option linter.unusedSimpArgs false
open Go.Proofs.Tryz renaming runUnderlying55 → uu55, isAgg71 → aa71, sizeOf71 → zz71, isAgg4 → aa4, underlying4 → nn4, isAgg25 → aa25, sizeOf25 → zz25
namespace Go.Sx
set_option maxRecDepth 100000
section
variable {α : Type} [Inhabited α] {eqf : α → α → Bool} {same : α → α → GR → Bool} {red : α → GR → α} {D : α → Prop} {n m : List (U α)} {u w : U α}
theorem NF.tail [K : Key] (h : NF eqf same red (u :: n)) : NF eqf same red n ∧ (∀ v ∈ n, eR u.iv < (eI v.iv : Int)) := by
  have ho := List.pairwise_cons.1 h.ord
  refine ⟨⟨fun x hx => h.wv x (List.mem_cons_of_mem _ hx), ho.2, fun i hi => ?_, fun x hx => h.inst x (List.mem_cons_of_mem _ hx)⟩, ho.1⟩
  exact h.lk (i + 1) (by simp only [List.length_cons]; omega)
theorem NF.nextLk [K : Key] (h : NF eqf same red (u :: n)) (hw : w ∈ n) (hk : (eI w.iv : Int) = eR u.iv + 1) : Lk eqf same u w := by
  cases n with
  | nil => cases hw
  | cons v n =>
    obtain ⟨h1, h2⟩ := h.tail
    rcases List.mem_cons.1 hw with e | hw
    · rw [e]; exact h.lk 0 (by simp)
    · have a1 := h2 v (List.mem_cons_self ..)
      have a2 := h1.tail.2 w hw
      have a3 := (h1.wv v (List.mem_cons_self ..)).le
      omega
theorem NF.one [K : Key] (h : NF eqf same red n) (hu : u ∈ n) (hw : w ∈ n) {q : Nat} (h1 : inU u.iv q) (h2 : inU w.iv q) : u = w := by
  induction n with
  | nil => cases hu
  | cons v n ih =>
    obtain ⟨t1, t2⟩ := h.tail
    rcases List.mem_cons.1 hu with e1 | hu2 <;> rcases List.mem_cons.1 hw with e2 | hw2
    · rw [e1, e2]
    · have := t2 w hw2
      rw [e1] at h1
      have b1 := h1.2; have b2 := h2.1
      omega
    · have := t2 u hu2
      rw [e2] at h2
      have b1 := h1.1; have b2 := h2.2
      omega
    · exact ih t1 hu2 hw2
omit [Inhabited α] in
theorem Sem.symm [K : Key] (R : Ru D same red) (hn : ∀ u ∈ n, D u.f) (hm : ∀ u ∈ m, D u.f) (h : Sem same n m) : Sem same m n := by
  refine ⟨fun t ht u hu hi => ?_, fun q u hu hi => ?_, fun t ht w hw hi => ?_, fun q w hw hi => ?_⟩
  · obtain ⟨w, h1, h2, h3⟩ := h.c1 t ht u hu hi
    exact ⟨w, h1, h2, R.symm t ht _ _ (hm w h1) (hn u hu) h3⟩
  · obtain ⟨w, h1, h2, h3⟩ := h.c2 q u hu hi
    exact ⟨w, h1, h2, h3.symm⟩
  · obtain ⟨u, h1, h2, h3⟩ := h.s1 t ht w hw hi
    exact ⟨u, h1, h2, R.symm t ht _ _ (hm w hw) (hn u h1) h3⟩
  · obtain ⟨u, h1, h2, h3⟩ := h.s2 q w hw hi
    exact ⟨u, h1, h2, h3.symm⟩
omit [Inhabited α] in
theorem Sem.trans [K : Key] {k : List (U α)} (R : Ru D same red) (hn : ∀ u ∈ n, D u.f) (hm : ∀ u ∈ m, D u.f) (hk : ∀ u ∈ k, D u.f) (h : Sem same n m) (h' : Sem same m k) : Sem same n k := by
  refine ⟨fun t ht u hu hi => ?_, fun q u hu hi => ?_, fun t ht w hw hi => ?_, fun q w hw hi => ?_⟩
  · obtain ⟨w, h1, h2, h3⟩ := h'.s1 t ht u hu hi
    obtain ⟨x, h4, h5, h6⟩ := h.s1 t ht w h1 h2
    exact ⟨x, h4, h5, R.trans t ht _ _ _ (hk u hu) (hm w h1) (hn x h4) h3 h6⟩
  · obtain ⟨w, h1, h2, h3⟩ := h'.s2 q u hu hi
    obtain ⟨x, h4, h5, h6⟩ := h.s2 q w h1 h2
    exact ⟨x, h4, h5, h3.trans h6⟩
  · obtain ⟨u, h1, h2, h3⟩ := h.c1 t ht w hw hi
    obtain ⟨x, h4, h5, h6⟩ := h'.c1 t ht u h1 h2
    exact ⟨x, h4, h5, R.trans t ht _ _ _ (hk x h4) (hm u h1) (hn w hw) h6 h3⟩
  · obtain ⟨u, h1, h2, h3⟩ := h.c2 q w hw hi
    obtain ⟨x, h4, h5, h6⟩ := h'.c2 q u h1 h2
    exact ⟨x, h4, h5, h6.trans h3⟩
omit [Inhabited α] in
theorem gi [K : Key] (i : Iv) : (i.openLo = false ∧ eI i = 2 * tk i.lo) ∨ (i.openLo = true ∧ eI i = 2 * tk i.lo + 1) := by
  unfold eI; cases i.openLo <;> simp
omit [Inhabited α] in
theorem lU [K : Key] (i : Iv) : (i.openHi = false ∧ eR i = 2 * (tk i.hi : Int)) ∨ (i.openHi = true ∧ eR i = 2 * (tk i.hi : Int) - 1) := by
  unfold eR; cases i.openHi <;> simp
omit [Inhabited α] in
theorem mg [K : Key] {i : Iv} (h : Wv i) : inU i (eI i) := ⟨Nat.le_refl _, h.le⟩
theorem fst_le [K : Key] (hw : Wv w.iv) (hm : NF eqf same red (u :: n)) (hS : Sem same (u :: n) m) (h : w ∈ m) : eI u.iv ≤ eI w.iv := by
  have key : ∃ v ∈ u :: n, inU v.iv (eI w.iv) := by
    rcases gi w.iv with ⟨_, e⟩ | ⟨_, e⟩
    · have hi := mg hw
      rw [e] at hi ⊢
      obtain ⟨v, h1, h2, _⟩ := hS.s1 _ hw.1.1 w h hi
      exact ⟨v, h1, h2⟩
    · have hi := mg hw
      rw [e] at hi ⊢
      obtain ⟨v, h1, h2, _⟩ := hS.s2 _ w h hi
      exact ⟨v, h1, h2⟩
  obtain ⟨v, h1, h2⟩ := key
  have h3 := h2.1
  rcases List.mem_cons.1 h1 with e | h1
  · rw [← e]; exact h3
  · have := hm.tail.2 v h1
    have := (hm.wv u (List.mem_cons_self ..)).le
    omega
theorem lst_le [K : Key] (R : Ru D same red) (hee : ∀ a, eqf a a = true) (hn : NF eqf same red (u :: n)) (hm : NF eqf same red (w :: m)) (hDn : ∀ v ∈ u :: n, D v.f) (hDm : ∀ v ∈ w :: m, D v.f)
    (hS : Sem same (u :: n) (w :: m)) (hf : eI u.iv = eI w.iv) : eR w.iv ≤ eR u.iv := by
  refine Classical.byContradiction fun hlt => ?_
  have hlt : eR u.iv < eR w.iv := by omega
  have hum : u ∈ u :: n := List.mem_cons_self ..
  have hwm : w ∈ w :: m := List.mem_cons_self ..
  have hwu := hn.wv u hum
  have hww := hm.wv w hwm
  have hle := hwu.le
  have nxt : ∀ {v : U α}, v ∈ u :: n → ∀ {q : Nat}, (q : Int) = eR u.iv + 1 → inU v.iv q → v ∈ n ∧ eI v.iv = q := fun {v} hv {q} hq hi => by
    rcases List.mem_cons.1 hv with e | hv
    · rw [e] at hi; have := hi.2; omega
    · have := hn.tail.2 v hv; have := hi.1; exact ⟨hv, by omega⟩
  have ev : ∀ t, Tm t → inU u.iv (2 * tk t) → inU w.iv (2 * tk t) → same w.f u.f t = true := fun t ht h1 h2 => by
    obtain ⟨v, k1, k2, k3⟩ := hS.s1 t ht w hwm h2
    rw [hn.one hum k1 h1 k2]; exact k3
  have od : ∀ q, inU u.iv (2 * q + 1) → inU w.iv (2 * q + 1) → w.f = u.f := fun q h1 h2 => by
    obtain ⟨v, k1, k2, k3⟩ := hS.s2 q w hwm h2
    rw [hn.one hum k1 h1 k2]; exact k3
  by_cases hi : u.iv.lo = u.iv.hi
  · obtain ⟨o1, o2⟩ := hwu.2.2 (by rw [hi])
    have f1 : eI u.iv = 2 * tk u.iv.lo := by rcases gi u.iv with ⟨_, e⟩ | ⟨e, _⟩; exact e; rw [o1] at e; cases e
    have l1 : eR u.iv = 2 * (tk u.iv.lo : Int) := by rcases lU u.iv with ⟨_, e⟩ | ⟨e, _⟩; rw [hi]; exact e; rw [o2] at e; cases e
    obtain ⟨v, k1, k2, k3⟩ := hS.s2 (tk u.iv.lo) w hwm ⟨by omega, by omega⟩
    obtain ⟨k4, k5⟩ := nxt k1 (q := 2 * tk u.iv.lo + 1) (by omega) k2
    have hlk := hn.nextLk k4 (by omega)
    have hvlo : v.iv.lo = u.iv.lo := by
      rcases gi v.iv with ⟨_, e⟩ | ⟨_, e⟩
      · omega
      · exact ((hn.wv v k1).1.1.inj hwu.1.1).1 (by omega)
    have h1 := (hlk (by rw [hvlo, hi])).1 hi
    rw [hvlo] at h1
    have h2 := ev _ hwu.1.1 ⟨by omega, by omega⟩ ⟨by omega, by omega⟩
    rw [k3, h1] at h2; cases h2
  · have hlh : tk u.iv.lo < tk u.iv.hi := by
      have := hwu.2.1
      by_cases e : tk u.iv.lo = tk u.iv.hi
      · exact absurd ((hwu.1.1.inj hwu.1.2).1 e) hi
      · omega
    have hfu := gi u.iv
    have hfe : w.f = u.f := by
      rcases lU u.iv with ⟨_, e⟩ | ⟨_, e⟩ <;> rcases hfu with ⟨_, e2⟩ | ⟨_, e2⟩ <;> exact od (tk u.iv.lo) ⟨by omega, by omega⟩ ⟨by omega, by omega⟩
    rcases lU u.iv with ⟨o, e⟩ | ⟨o, e⟩
    · have hin : inU w.iv (2 * tk u.iv.hi + 1) := ⟨by rcases hfu with ⟨_, e2⟩ | ⟨_, e2⟩ <;> omega, by omega⟩
      obtain ⟨v, k1, k2, k3⟩ := hS.s2 (tk u.iv.hi) w hwm hin
      obtain ⟨k4, k5⟩ := nxt k1 (q := 2 * tk u.iv.hi + 1) (by omega) k2
      have hlk := hn.nextLk k4 (by omega)
      have hvlo : v.iv.lo = u.iv.hi := by
        rcases gi v.iv with ⟨_, e⟩ | ⟨_, e⟩
        · omega
        · exact ((hn.wv v k1).1.1.inj hwu.1.2).1 (by omega)
      have h1 := ((hlk hvlo.symm).2 hi).1 o
      rw [← k3, hfe, hee] at h1; cases h1
    · have hin : inU w.iv (2 * tk u.iv.hi) := ⟨by rcases hfu with ⟨_, e2⟩ | ⟨_, e2⟩ <;> omega, by omega⟩
      obtain ⟨v, k1, k2, k3⟩ := hS.s1 _ hwu.1.2 w hwm hin
      obtain ⟨k4, k5⟩ := nxt k1 (q := 2 * tk u.iv.hi) (by omega) k2
      have hlk := hn.nextLk k4 (by omega)
      obtain ⟨vo, hvlo⟩ : v.iv.openLo = false ∧ v.iv.lo = u.iv.hi := by
        rcases gi v.iv with ⟨e1, e⟩ | ⟨_, e⟩
        · exact ⟨e1, ((hn.wv v k1).1.1.inj hwu.1.2).1 (by omega)⟩
        · omega
      have h1 := ((hlk hvlo.symm).2 hi).2 o vo
      rw [hvlo, ← hfe, k3] at h1; cases h1
theorem head_eq [K : Key] (R : Ru D same red) (hrc : ∀ t, Tm t → ∀ f g, D f → D g → same f g t = true → red f t = red g t) (hn : NF eqf same red (u :: n)) (hm : NF eqf same red (w :: m)) (hDn : ∀ v ∈ u :: n, D v.f) (hDm : ∀ v ∈ w :: m, D v.f)
    (hS : Sem same (u :: n) (w :: m)) (hf : eI u.iv = eI w.iv) (hl : eR u.iv = eR w.iv) : u = w := by
  have hum : u ∈ u :: n := List.mem_cons_self ..
  have hwm : w ∈ w :: m := List.mem_cons_self ..
  have hwu := hn.wv u hum
  have hww := hm.wv w hwm
  have e1 : u.iv.lo = w.iv.lo ∧ u.iv.openLo = w.iv.openLo := by
    rcases gi u.iv with ⟨o, e⟩ | ⟨o, e⟩ <;> rcases gi w.iv with ⟨o', e'⟩ | ⟨o', e'⟩
    · exact ⟨(hwu.1.1.inj hww.1.1).1 (by omega), by rw [o, o']⟩
    · omega
    · omega
    · exact ⟨(hwu.1.1.inj hww.1.1).1 (by omega), by rw [o, o']⟩
  have e2 : u.iv.hi = w.iv.hi ∧ u.iv.openHi = w.iv.openHi := by
    rcases lU u.iv with ⟨o, e⟩ | ⟨o, e⟩ <;> rcases lU w.iv with ⟨o', e'⟩ | ⟨o', e'⟩
    · exact ⟨(hwu.1.2.inj hww.1.2).1 (by omega), by rw [o, o']⟩
    · omega
    · omega
    · exact ⟨(hwu.1.2.inj hww.1.2).1 (by omega), by rw [o, o']⟩
  have e3 : u.f = w.f := by
    by_cases hi : u.iv.lo = u.iv.hi
    · obtain ⟨o1, o2⟩ := hwu.2.2 (by rw [hi])
      have f1 : eI u.iv = 2 * tk u.iv.lo := by rcases gi u.iv with ⟨_, e⟩ | ⟨e, _⟩; exact e; rw [o1] at e; cases e
      have hle := hwu.le
      have h1 := hn.inst u hum hi
      have h2 := hm.inst w hwm (by rw [← e1.1, ← e2.1]; exact hi)
      obtain ⟨v, k1, k2, k3⟩ := hS.s1 _ hwu.1.1 w hwm ⟨by omega, by omega⟩
      rw [hn.one k1 hum k2 ⟨by omega, by omega⟩] at k3
      have := hrc _ hwu.1.1 _ _ (hDm w hwm) (hDn u hum) k3
      rw [← e1.1, this, h1] at h2
      exact h2
    · have hlh : tk u.iv.lo < tk u.iv.hi := by
        have := hwu.2.1
        by_cases e : tk u.iv.lo = tk u.iv.hi
        · exact absurd ((hwu.1.1.inj hwu.1.2).1 e) hi
        · omega
      have hin : inU u.iv (2 * tk u.iv.lo + 1) := by
        rcases gi u.iv with ⟨_, e⟩ | ⟨_, e⟩ <;> rcases lU u.iv with ⟨_, e'⟩ | ⟨_, e'⟩ <;> exact ⟨by omega, by omega⟩
      have hin2 : inU w.iv (2 * tk u.iv.lo + 1) := by
        have a1 := hin.1; have a2 := hin.2; exact ⟨by omega, by omega⟩
      obtain ⟨v, k1, k2, k3⟩ := hS.s2 _ w hwm hin2
      rw [hn.one k1 hum k2 hin] at k3
      exact k3.symm
  obtain ⟨⟨lo, hi, ol, oh⟩, f⟩ := u
  obtain ⟨⟨lo2, hi2, ol2, oh2⟩, f2⟩ := w
  simp only at e1 e2 e3
  obtain ⟨rfl, rfl⟩ := e1
  obtain ⟨rfl, rfl⟩ := e2
  rw [e3]
theorem vP [K : Key] (R : Ru D same red) (hrc : ∀ t, Tm t → ∀ f g, D f → D g → same f g t = true → red f t = red g t) (hee : ∀ a, eqf a a = true) :
    ∀ {n m : List (U α)}, NF eqf same red n → NF eqf same red m → (∀ v ∈ n, D v.f) → (∀ v ∈ m, D v.f) → Sem same n m → n = m
  | [], [], _, _, _, _, _ => rfl
  | [], w :: m, _, hm, _, _, hS => by
    have hw := hm.wv w (List.mem_cons_self ..)
    have hi := mg hw
    rcases gi w.iv with ⟨_, e⟩ | ⟨_, e⟩
    · rw [e] at hi
      obtain ⟨v, h1, _⟩ := hS.s1 _ hw.1.1 w (List.mem_cons_self ..) hi
      cases h1
    · rw [e] at hi
      obtain ⟨v, h1, _⟩ := hS.s2 _ w (List.mem_cons_self ..) hi
      cases h1
  | u :: n, [], hn, _, _, _, hS => by
    have hw := hn.wv u (List.mem_cons_self ..)
    have hi := mg hw
    rcases gi u.iv with ⟨_, e⟩ | ⟨_, e⟩
    · rw [e] at hi
      obtain ⟨v, h1, _⟩ := hS.c1 _ hw.1.1 u (List.mem_cons_self ..) hi
      cases h1
    · rw [e] at hi
      obtain ⟨v, h1, _⟩ := hS.c2 _ u (List.mem_cons_self ..) hi
      cases h1
  | u :: n, w :: m, hn, hm, hDn, hDm, hS => by
    have hum : u ∈ u :: n := List.mem_cons_self ..
    have hwm : w ∈ w :: m := List.mem_cons_self ..
    have hS' := hS.symm R hDn hDm
    have f1 := fst_le (hm.wv w hwm) hn hS hwm
    have f2 := fst_le (hn.wv u hum) hm hS' hum
    have hf : eI u.iv = eI w.iv := by omega
    have l1 := lst_le R hee hn hm hDn hDm hS hf
    have l2 := lst_le R hee hm hn hDm hDn hS' hf.symm
    have he := head_eq R hrc hn hm hDn hDm hS hf (by omega)
    subst he
    obtain ⟨tn, on⟩ := hn.tail
    obtain ⟨tm, om⟩ := hm.tail
    rw [vP R hrc hee tn tm (fun v hv => hDn v (List.mem_cons_of_mem _ hv)) (fun v hv => hDm v (List.mem_cons_of_mem _ hv)) ?_]
    refine ⟨fun t ht v hv hi => ?_, fun q v hv hi => ?_, fun t ht v hv hi => ?_, fun q v hv hi => ?_⟩
    · obtain ⟨x, h1, h2, h3⟩ := hS.s1 t ht v (List.mem_cons_of_mem _ hv) hi
      rcases List.mem_cons.1 h1 with e | h1
      · rw [e] at h2; have a1 := om v hv; have a2 := hi.1; have a3 := h2.2; omega
      · exact ⟨x, h1, h2, h3⟩
    · obtain ⟨x, h1, h2, h3⟩ := hS.s2 q v (List.mem_cons_of_mem _ hv) hi
      rcases List.mem_cons.1 h1 with e | h1
      · rw [e] at h2; have a1 := om v hv; have a2 := hi.1; have a3 := h2.2; omega
      · exact ⟨x, h1, h2, h3⟩
    · obtain ⟨x, h1, h2, h3⟩ := hS.c1 t ht v (List.mem_cons_of_mem _ hv) hi
      rcases List.mem_cons.1 h1 with e | h1
      · rw [e] at h2; have a1 := on v hv; have a2 := hi.1; have a3 := h2.2; omega
      · exact ⟨x, h1, h2, h3⟩
    · obtain ⟨x, h1, h2, h3⟩ := hS.c2 q v (List.mem_cons_of_mem _ hv) hi
      rcases List.mem_cons.1 h1 with e | h1
      · rw [e] at h2; have a1 := on v hv; have a2 := hi.1; have a3 := h2.2; omega
      · exact ⟨x, h1, h2, h3⟩
end
end Go.Sx
namespace Go.Sx
open Go Go.RowKit Go.Proofs
set_option maxRecDepth 100000
set_option maxHeartbeats 40000000
attribute [local irreducible] Code.wp wpList Rd Step ObS Ent
attribute [local irreducible] ao aN ah aw ay bP
theorem ma (w : World) : (method (Tryz.prog.types.size + Made.depth) 55 (.agg #[]) "Equal").run Tryz.prog w = .ok (367, .agg #[]) w := jY (P := Tryz.prog) (T := 55) Tryz.type55 (by kernel_rfl) uu55 w
instance yR4_1 : Mt Tryz.prog 55 (.agg #[]) "Equal" 367 := ⟨ma⟩
theorem k8 (w : World) : (nilAhead (Tryz.prog.types.size + Made.depth) 55 (.agg #[]) "Equal").run Tryz.prog w = .ok (some false) w := iH (P := Tryz.prog) (T := 55) (f := 367) Tryz.type55 (by kernel_rfl) uu55 w
instance yR4_2 : Nl Tryz.prog 55 (.agg #[]) "Equal" := ⟨k8⟩
theorem li (w : World) : (method (Tryz.prog.types.size + Made.depth) 55 (.agg #[]) "Reduce").run Tryz.prog w = .ok (368, .agg #[]) w := jY (P := Tryz.prog) (T := 55) Tryz.type55 (by kernel_rfl) uu55 w
instance yR4_3 : Mt Tryz.prog 55 (.agg #[]) "Reduce" 368 := ⟨li⟩
theorem ks (w : World) : (nilAhead (Tryz.prog.types.size + Made.depth) 55 (.agg #[]) "Reduce").run Tryz.prog w = .ok (some false) w := iH (P := Tryz.prog) (T := 55) (f := 368) Tryz.type55 (by kernel_rfl) uu55 w
instance yR4_4 : Nl Tryz.prog 55 (.agg #[]) "Reduce" := ⟨ks⟩
theorem m0 (w : World) : (method (Tryz.prog.types.size + Made.depth) 55 (.agg #[]) "Same").run Tryz.prog w = .ok (369, .agg #[]) w := jY (P := Tryz.prog) (T := 55) Tryz.type55 (by kernel_rfl) uu55 w
instance yR4_5 : Mt Tryz.prog 55 (.agg #[]) "Same" 369 := ⟨m0⟩
theorem l9 (w : World) : (nilAhead (Tryz.prog.types.size + Made.depth) 55 (.agg #[]) "Same").run Tryz.prog w = .ok (some false) w := iH (P := Tryz.prog) (T := 55) (f := 369) Tryz.type55 (by kernel_rfl) uu55 w
instance yR4_6 : Nl Tryz.prog 55 (.agg #[]) "Same" := ⟨l9⟩
end Go.Sx
namespace Go.Sx
open Go Go.RowKit Go.Proofs
set_option maxRecDepth 100000
set_option maxHeartbeats 40000000
attribute [local irreducible] Code.wp wpList Rd Step ObS Ent
attribute [local irreducible] ao aN ah aw ay bP
theorem eqi86 : EqIn Tryz.prog 5 86 vV := eqS (c := cV) (fun _ => rfl) Tryz.underlying86 Tryz.stoodInHeld86 fun d x y w hd => by
 refine Eq.trans (eqF (by decide) (c8 aa71 zz71 (v := vR (x.lo)) rfl w) (c8 aa71 zz71 (v := vR (y.lo)) rfl w) (eqi71 d _ _ w og) (eqF (by decide) (c8 aa71 zz71 (v := vR (x.hi)) rfl w) (c8 aa71 zz71 (v := vR (y.hi)) rfl w) (eqi71 d _ _ w og) (eqF (by decide) (d4 aa4 rfl w) (d4 aa4 rfl w) (eqB nn4 d og _ _ w) (eqF (by decide) (d4 aa4 rfl w) (d4 aa4 rfl w) (eqB nn4 d og _ _ w) eqF0)))) ?_
 congr 1
 rw [decide_eq_decide]
 cases x; cases y; simp
theorem eqp86 : EqP Tryz.prog 86 vV := EqIn.p (k := 5) rfl (c := fun x => (cV x).toArray) (fun _ => rfl) Tryz.eqGuardType86 eqi86
instance yR4_7 : Ep Tryz.prog 86 Iv inferInstance vV := ⟨eqp86⟩
instance yR4_8 : Mt Tryz.prog 55 (.agg #[]) "Equal" 367 := ⟨ma⟩
instance yR4_9 : Nl Tryz.prog 55 (.agg #[]) "Equal" := ⟨k8⟩
end Go.Sx
namespace Go.Sx
open Go Go.RowKit Go.Proofs
set_option maxRecDepth 100000
set_option maxHeartbeats 40000000
attribute [local irreducible] Code.wp wpList Rd Step ObS Ent
attribute [local irreducible] ao aN ah aw ay bP
instance yR4_10 : Mt Tryz.prog 55 (.agg #[]) "Reduce" 368 := ⟨li⟩
instance yR4_11 : Nl Tryz.prog 55 (.agg #[]) "Reduce" := ⟨ks⟩
instance yR4_12 : Mt Tryz.prog 55 (.agg #[]) "Same" 369 := ⟨m0⟩
instance yR4_13 : Nl Tryz.prog 55 (.agg #[]) "Same" := ⟨l9⟩
end Go.Sx
namespace Go.Sx
end Go.Sx
namespace Go.Sx
open Go Go.RowKit Go.Proofs
set_option maxRecDepth 100000
set_option maxHeartbeats 40000000
attribute [local irreducible] Code.wp wpList Rd Step ObS Ent
attribute [local irreducible] ao aN ah aw ay bP
instance yR4_14 : Ep Tryz.prog 86 Iv inferInstance vV := ⟨eqp86⟩
end Go.Sx
namespace Go.Sx
open Go Go.RowKit Go.Proofs
set_option maxRecDepth 100000
set_option maxHeartbeats 40000000
attribute [local irreducible] Code.wp wpList Rd Step ObS Ent
attribute [local irreducible] ao aN ah aw ay bP
def cX (a : GI) : Int :=
 bif (((decide (a.mag = 0)) && a.neg) || ((!(decide (a.mag = 0))) && (((((mn a.mag) : Nat) : Int)) == (((0 : Nat) : Int))))) then
  5
 else
  0
theorem ir (a : GI) (za : SzI 16 a) (w0 : World)  : Calls Tryz.prog 157 #[(vI a)] w0 (dh w0 (.int .i64 (cX a)) (True)) := by
 refine enter (N := 21) (args := [(vI a)]) Tryz.func157 rfl rfl ?_; intro ac h
 refine gz h <| (xb) fun b1 => (xg (hs := by exact fun hg => (Rd.of_nil (sI Tryz.runUnderlying9 (fu rfl hg) rfl og)).step)) <| (ai) ?_ ?_ <;> clear h ac <;> intro ac wo h hc1
 ·
  have hq1 := hc1; try simp at hq1
  have hd : cX a = 5 := pt
  refine gz h <| (W) ?_; clear h ac wo; intro ac wo h
  exact (rt h) (h.retP (by rw [hd] <;> rfl) trivial)
 ·
  have hq1 := hc1; try simp at hq1
  have hd : cX a = 0 := pt
  refine gz h <| (W) ?_; clear h ac wo; intro ac wo h
  exact (rt h) (h.retP (by rw [hd] <;> rfl) trivial)
attribute [irreducible] cX
def cv (a : GQ) : Int :=
 bif (((cX a.num) != 0) || ((cX a.den) != 0)) then
  5
 else
  bif (decide (a.den = (⟨false, 0⟩ : GI))) then
   0
  else
   bif ((decide ((cL a.den rational_one) ≤ 0)) || (!(decide ((aS a.num a.den) = rational_one)))) then
    5
   else
    0
theorem d5 (a : GQ) (za : SzQ 16 a) (w0 : World)  : Calls Tryz.prog 62 #[(vQ a)] w0 (dh w0 (.int .i64 (cv a)) (True)) := by
  refine enter (N := 31) (args := [(vQ a)]) Tryz.func62 rfl rfl ?_; intro ac h
  refine gz h <| (xb) fun b1 => (xk (ir a.num za.1)) <| (xg (hs := by exact fun hg => fb enA (kk (ir a.den za.2)))) <| (ai) ?_ ?_ <;> clear h ac <;> intro ac wo h hc1
  ·
    have hq1 := hc1; try simp at hq1
    have hd : cv a = 5 := pt
    refine gz h <| (W) ?_; clear h ac wo; intro ac wo h
    exact (rt h) (h.retP (by rw [hd] <;> rfl) trivial)
  ·
    have hq1 := hc1; try simp at hq1
    refine gz h <| (xo (hs := by exact bA nK exs rfl (v := (vI (⟨false, 0⟩ : GI))) rfl)) <| (ai) ?_ ?_ <;> clear h ac wo <;> intro ac wo h hc2
    ·
      have hd2 := of_decide_eq_true hc2
      have hd : cv a = 0 := pt
      refine gz h <| (W) ?_; clear h ac wo; intro ac wo h
      exact (rt h) (h.retP (by rw [hd] <;> rfl) trivial)
    ·
      have hd2 := of_decide_eq_false hc2
      refine gz h <| (W) ?_; clear h ac wo; intro ac wo h
      have c1 := ed  40 og
      have s1 := am (c1 w0)
      have p3 := am ((fH a.den rational_one 16 og za.2 (fB s1 og)) w0)
      have s4 := am ((ie a.num a.den 16 og za.1 za.2) w0)
      have s5 := am ((ed  40 og ) w0)
      refine gz h <| (dr0 (hob := (oK (c1)) <| (oK (fH a.den rational_one 16 og za.2 (fB s1 og))) <| (oG (by exact fun hg => ie a.num a.den 16 og za.1 za.2)) <| (oG (by exact fun hg => ed  40 og)) <| oE)) <| (ai) ?_ ?_ <;> clear h ac wo <;> intro ac wo h hc3
      ·
        have hq3 := hc3; try simp at hq3
        have hd : cv a = 5 := pt
        refine gz h <| (W) ?_; clear h ac wo; intro ac wo h
        exact (rt h) (h.retP (by rw [hd] <;> rfl) trivial)
      ·
        have hq3 := hc3; try simp at hq3
        have hd : cv a = 0 := pt
        refine gz h <| (W) ?_; clear h ac wo; intro ac wo h
        exact (rt h) (h.retP (by rw [hd] <;> rfl) trivial)
attribute [irreducible] cv
end Go.Sx
namespace Go.Sx
open Go Go.RowKit Go.Proofs
set_option maxRecDepth 100000
set_option maxHeartbeats 40000000
attribute [local irreducible] Code.wp wpList Rd Step ObS Ent
attribute [local irreducible] ao aN ah aw ay bP
def aJ (i : Iv) : Bd :=
 (⟨i.lo, i.openLo⟩ : Bd)
theorem fg (i : Iv) (zi : SzV 30 i) (w0 : World)  : Calls Tryz.prog 136 #[(vV i)] w0 (dh w0 (vW (aJ i)) (SzW 30 (aJ i))) := by
 refine enter (N := 8) (args := [(vV i)]) Tryz.func136 rfl rfl ?_; intro ac h
 refine gz h <| (xb) fun b1 => (xa) fun b2 => (xo (hs := by exact bA bld206 exs rfl (v := (vW (⟨i.lo, i.openLo⟩ : Bd))) rfl)) <| (W) ?_; clear h ac; intro ac wo h
 exact ret h rfl (.cell (v := (vW (⟨i.lo, i.openLo⟩ : Bd))) rfl (i := 0) rfl Tryz.isAgg206 Tryz.sizeOf206 rfl rfl rfl .nil) rfl (h.retP (by unfold aJ; rfl) (by unfold aJ; exact zi.1))
attribute [irreducible] aJ
def aE (i : Iv) : Bd :=
 (⟨i.hi, (!i.openHi)⟩ : Bd)
theorem fD (i : Iv) (zi : SzV 30 i) (w0 : World)  : Calls Tryz.prog 137 #[(vV i)] w0 (dh w0 (vW (aE i)) (SzW 30 (aE i))) := by
 refine enter (N := 9) (args := [(vV i)]) Tryz.func137 rfl rfl ?_; intro ac h
 refine gz h <| (xb) fun b1 => (xa) fun b2 => (xo (hs := by exact bA bld206 exs rfl (v := (vW (⟨i.hi, (!i.openHi)⟩ : Bd))) rfl)) <| (W) ?_; clear h ac; intro ac wo h
 exact ret h rfl (.cell (v := (vW (⟨i.hi, (!i.openHi)⟩ : Bd))) rfl (i := 0) rfl Tryz.isAgg206 Tryz.sizeOf206 rfl rfl rfl .nil) rfl (h.retP (by unfold aE; rfl) (by unfold aE; exact zi.2))
attribute [irreducible] aE
def bE (a : Bd) (b : Bd) : Int :=
 bif ((ao a.at_ b.at_) != 0) then
  (ao a.at_ b.at_)
 else
  bif (a.behind == b.behind) then
   0
  else
   bif b.behind then
    (-1)
   else
    1
theorem gU (a : Bd) (b : Bd) (za : SzW 30 a) (zb : SzW 30 b) (w0 : World)  : Calls Tryz.prog 135 #[(vW a), (vW b)] w0 (dh w0 (.int .i64 (bE a b)) ((-1 ≤ (bE a b) ∧ (bE a b) ≤ 1))) := by
 refine enter (N := 23) (args := [(vW a), (vW b)]) Tryz.func135 rfl rfl ?_; intro ac h
 have p2 := am ((dl a.at_ b.at_ 10 og za zb) w0)
 refine gz h <| (xb) fun b1 => (xb) fun b2 => (xk (dl a.at_ b.at_ 10 og za zb)) <| (ai) ?_ ?_ <;> clear h ac <;> intro ac wo h hc1
 ·
  have hq1 := hc1; try simp at hq1
  have hd : bE a b = (ao a.at_ b.at_) := pt
  refine gz h <| (W) ?_; clear h ac wo; intro ac wo h
  exact (rt h) (h.retP (by rw [hd] <;> rfl) (by rw [hd]; exact og))
 ·
  have hq1 := hc1; try simp at hq1
  refine gz h <| (xo (hs := by exact vy nn4 rfl rfl)) <| (ai) ?_ ?_ <;> clear h ac wo <;> intro ac wo h hc2
  ·
   have hd2 := eq_of_beq hc2
   have hd : bE a b = 0 := pt
   refine gz h <| (W) ?_; clear h ac wo; intro ac wo h
   exact (rt h) (h.retP (by rw [hd] <;> rfl) (by rw [hd]; exact og))
  ·
   have hd2 := ne_of_beq_false hc2
   refine gz h <| (ai) ?_ ?_ <;> clear h ac wo <;> intro ac wo h hc3
   ·
    have hq3 := hc3; try simp at hq3
    have hd : bE a b = (-1) := pt
    refine gz h <| (W) ?_; clear h ac wo; intro ac wo h
    exact (rt h) (h.retP (by rw [hd] <;> rfl) (by rw [hd]; exact og))
   ·
    have hq3 := hc3; try simp at hq3
    have hd : bE a b = 1 := pt
    refine gz h <| (W) ?_; clear h ac wo; intro ac wo h
    exact (rt h) (h.retP (by rw [hd] <;> rfl) (by rw [hd]; exact og))
attribute [irreducible] bE
end Go.Sx
namespace Go.Sx
open Go Go.RowKit Go.Proofs
set_option maxRecDepth 100000
set_option maxHeartbeats 40000000
attribute [local irreducible] Code.wp wpList Rd Step ObS Ent
attribute [local irreducible] ao aN ah aw ay bP
theorem qw (w : World) : (method (Tryz.prog.types.size + Made.depth) 55 (.agg #[]) "Check").run Tryz.prog w = .ok (366, .agg #[]) w := jY (P := Tryz.prog) (T := 55) Tryz.type55 (by kernel_rfl) uu55 w
instance yR4_15 : Mt Tryz.prog 55 (.agg #[]) "Check" 366 := ⟨qw⟩
theorem pc (w : World) : (nilAhead (Tryz.prog.types.size + Made.depth) 55 (.agg #[]) "Check").run Tryz.prog w = .ok (some false) w := iH (P := Tryz.prog) (T := 55) (f := 366) Tryz.type55 (by kernel_rfl) uu55 w
instance yR4_16 : Nl Tryz.prog 55 (.agg #[]) "Check" := ⟨pc⟩
def bu (a : GI) : GI × Bool :=
 bif a.neg then
  ((⟨false, 0⟩ : GI), false)
 else
  bif (!(decide ((er (bV a.mag) (bV a.mag)) = a.mag))) then
   ((⟨false, 0⟩ : GI), false)
  else
   ((aG false (bV a.mag)), true)
theorem iM (a : GI) (ha : a.mag < 4) (za : SzI 30 a) (w0 : World)  : Calls Tryz.prog 276 #[(vI a)] w0 (dh w0 (.tuple #[(vI ((bu a).1)), (.bool ((bu a).2))]) (SzI 28 ((bu a).1))) := by
  refine enter (N := 20) (args := [(vI a)]) Tryz.func276 rfl rfl ?_; intro ac h
  refine gz h <| (xb) fun b1 => (xa) fun b2 => (ai) ?_ ?_ <;> clear h ac <;> intro ac wo h hc1
  ·
    have hq1 := hc1; try simp at hq1
    have hd : bu a = ((⟨false, 0⟩ : GI), false) := pt
    refine gz h <| (xo (hs := by exact bA nK exs rfl (v := (vI (⟨false, 0⟩ : GI))) rfl)) <| (W) ?_; clear h ac wo; intro ac wo h
    exact ret h rfl (.cell (v := (vI (⟨false, 0⟩ : GI))) rfl (i := 0) rfl aa25 zz25 rfl rfl rfl (.tmp rfl .nil)) rfl (h.retP (by rw [hd] <;> rfl) (by rw [hd]; exact (cw 0 (by decide) og)))
  ·
    have hq1 := hc1; try simp at hq1
    have c1 := sF a.mag ha za
    have s1 := Calls.pr (c1 w0)
    refine gz h <| (xk (c1)) <| (W) ?_; clear h ac wo; intro ac wo h
    have c2 := iZ (bV a.mag) (bV a.mag) 28 og s1 s1
    have s2 := am (c2 w0)
    refine gz h <| (dr0 (hob := (oK (c2)) <| oE)) <| (ai) ?_ ?_ <;> clear h ac wo <;> intro ac wo h hc2
    ·
      have hq2 := hc2; try simp at hq2
      have hd : bu a = ((⟨false, 0⟩ : GI), false) := pt
      refine gz h <| (xo (hs := by exact bA nK exs rfl (v := (vI (⟨false, 0⟩ : GI))) rfl)) <| (W) ?_; clear h ac wo; intro ac wo h
      exact ret h rfl (.cell (v := (vI (⟨false, 0⟩ : GI))) rfl (i := 0) rfl aa25 zz25 rfl rfl rfl (.tmp rfl .nil)) rfl (h.retP (by rw [hd] <;> rfl) (by rw [hd]; exact (cw 0 (by decide) og)))
    ·
      have hq2 := hc2; try simp at hq2
      have c3 := bN false (bV a.mag) 29 og s1
      have s3 := am (c3 w0)
      have hd : bu a = ((aG false (bV a.mag)), true) := pt
      refine gz h <| (xk (c3)) <| (W) ?_; clear h ac wo; intro ac wo h
      exact ret h rfl (.cell (v := (vI (aG false (bV a.mag)))) rfl (i := 0) rfl aa25 zz25 rfl rfl rfl (.tmp rfl .nil)) rfl (h.retP (by rw [hd] <;> rfl) (by rw [hd]; exact (fB s3 og)))
attribute [irreducible] bu
def cr (a : GQ) : GQ × Bool :=
 bif ((!(bu a.num).2) || (!(bu (aa a)).2)) then
  ((⟨(⟨false, 0⟩ : GI), (⟨false, 0⟩ : GI)⟩ : GQ), false)
 else
  ((a8 ((bu a.num).1) ((bu (aa a)).1)), true)
theorem mq (a : GQ) (ha : a.num.mag < 4 ∧ a.den = ⟨false, 0⟩) (za : SzQ 30 a) (w0 : World)  : Calls Tryz.prog 219 #[(vQ a)] w0 (dh w0 (.tuple #[(vQ ((cr a).1)), (.bool ((cr a).2))]) (SzQ 20 ((cr a).1))) := by
 refine enter (N := 30) (args := [(vQ a)]) Tryz.func219 rfl rfl ?_; intro ac h
 have c1 := iM a.num ha.1 za.1
 have s1 := Calls.pr (c1 w0)
 have c2 := br a 30 og za
 have s2 := am (c2 w0)
 have c3 := iM (aa a) (wM ha.2).2 s2
 have s3 := Calls.pr (c3 w0)
 refine gz h <| (xb) fun b1 => (xa) fun b2 => (xk (c1)) <| (xa) fun b3 => (xk (c2)) <| (xk (c3)) <| (xa) fun b4 => (ai) ?_ ?_ <;> clear h ac <;> intro ac wo h hc1
 ·
  have hq1 := hc1; try simp at hq1
  have hd : cr a = (oQ, false) := pt
  refine gz h <| (xo (hs := by exact bA no exs rfl (v := (vQ oQ)) rfl)) <| (W) ?_; clear h ac wo; intro ac wo h
  exact ret h rfl (.cell (v := (vQ oQ)) rfl (i := 2) rfl Tryz.isAgg27 Tryz.sizeOf27 rfl rfl rfl (.tmp rfl .nil)) rfl (h.retP (by rw [hd] <;> rfl) (by rw [hd]; exact ⟨(cw 0 (by decide) og), (cw 0 (by decide) og)⟩))
 ·
  have hq1 := hc1; try simp at hq1
  have c4 := dK ((bu a.num).1) ((bu (aa a)).1) 27 og s1 s3
  have s4 := am (c4 w0)
  have hd : cr a = ((a8 ((bu a.num).1) ((bu (aa a)).1)), true) := pt
  refine gz h <| (xk (c4)) <| (W) ?_; clear h ac wo; intro ac wo h
  exact ret h rfl (.cell (v := (vQ (a8 ((bu a.num).1) ((bu (aa a)).1)))) rfl (i := 2) rfl Tryz.isAgg27 Tryz.sizeOf27 rfl rfl rfl (.tmp rfl .nil)) rfl (h.retP (by rw [hd] <;> rfl) (by rw [hd]; exact (bQ s4 og)))
attribute [irreducible] cr
def ja (x : GR) : Int :=
 bif (((cv x.p) != 0) || ((cv x.r) != 0)) then
  5
 else
  bif ((aw x.r) == (-1)) then
   5
  else
   bif ((aw x.r) == 0) then
    bif x.neg then
     5
    else
     0
   else
    bif (cr x.r).2 then
     5
    else
     0
attribute [irreducible] ja
def fe (i : Iv) : Int :=
 bif (((ja i.lo) != 0) || ((ja i.hi) != 0)) then
  5
 else
  bif (decide ((bE (aJ i) (aE i)) ≥ 0)) then
   10
  else
   0
attribute [irreducible] fe
end Go.Sx
namespace Go.Sx
theorem sS : ∀ (f n : Nat), n ≤ f → n ≠ 0 → ((leF f n).reverse.headD 0).toNat ≠ 0
  | 0, n, h, h0 => absurd (by omega) h0
  | f + 1, n, h, h0 => by
    unfold leF
    have hb : Nat.beq n 0 = false := by
      cases e : Nat.beq n 0 with
      | false => rfl
      | true => exact absurd (Nat.eq_of_beq_eq_true e) h0
    rw [hb, cond_false, List.reverse_cons]
    by_cases e : n / 256 = 0
    · rw [e, kh]
      show (UInt8.ofNat (n % 256)).toNat ≠ 0
      rw [UInt8.toNat_ofNat']
      omega
    · have ih := sS f (n / 256) (by omega) e
      cases hr : (leF f (n / 256)).reverse with
      | nil =>
        rw [hr] at ih
        exact absurd rfl ih
      | cons x q =>
        rw [hr] at ih
        exact ih
theorem topb_ne {m : Nat} (h : m ≠ 0) : mn m ≠ 0 := sS m m (Nat.le_refl m) h
theorem icheck {a : GI} (h : IOk a) : cX a = 0 := by
  unfold cX
  by_cases e : a.mag = 0
  · rw [decide_eq_true e, h e]; rfl
  · rw [decide_eq_false e, show ((((mn a.mag) : Nat) : Int) == (((0 : Nat) : Int))) = false from beq_eq_false_iff_ne.2 (by have := topb_ne e; omega)]
    rfl
theorem qcheck {a : GQ} (h : QOk a) : cv a = 0 := by
  obtain ⟨h1, h2, h3⟩ := h
  have hd : IOk a.den := by
    rcases h2 with e | ⟨e, _⟩
    · rw [e]; intro _; rfl
    · intro _; exact e
  unfold cv
  rw [icheck h1, icheck hd]
  by_cases e : a.den = z0
  · rw [decide_eq_true (show a.den = ⟨false, 0⟩ from e)]; rfl
  · rw [decide_eq_false (show ¬ a.den = ⟨false, 0⟩ from e)]
    obtain ⟨n1, n2⟩ := h2.resolve_left e
    have h3 : Nat.Coprime a.num.mag a.den.mag := by unfold jN at h3; rwa [if_neg e] at h3
    have hv : eU a.den = (a.den.mag : Int) := by unfold eU; rw [n1]; rfl
    have c1 : cL a.den rational_one = 1 := by
      rw [kJ (b := rational_one) hd (jo 1), hv, oV]
      unfold icmp
      rw [if_neg (by omega), if_pos (by omega)]
    have c2 : aS a.num a.den = rational_one := by
      unfold aS
      rw [show Nat.gcd a.num.mag a.den.mag = 1 from h3]; rfl
    rw [c1, decide_eq_true c2]; rfl
theorem isq_sq {a : GI} (h : (bu a).2 = true) : ∃ n : Nat, a.mag = n * n := by
  unfold bu at h
  cases hn : a.neg with
  | true => rw [hn] at h; cases h
  | false =>
    rw [hn, cond_false] at h
    by_cases e : er (bV a.mag) (bV a.mag) = a.mag
    · exact ⟨bV a.mag, e.symm⟩
    · rw [decide_eq_false e] at h; cases h
theorem vi {r : GQ} (hr : QOk r) (hp : 0 ≤ bH r) (hs : ∀ q : Rat, q * q ≠ bH r) : (cr r).2 = false := by
  unfold cr
  cases h1 : (bu r.num).2 with
  | false => rfl
  | true =>
    cases h2 : (bu (aa r)).2 with
    | false => rfl
    | true =>
      exfalso
      obtain ⟨n, hn⟩ := isq_sq h1
      obtain ⟨d, hd⟩ := isq_sq h2
      obtain ⟨e1, e2⟩ := i6 hr
      have hdm : (aa r).mag = jN r := by
        have := gh (aa r); rw [e1] at this; simpa using this.symm
      have hq := rK hr
      have hden : (jN r : Rat) ≠ 0 := mW hr
      refine hs ((n : Rat) / (d : Rat)) ?_
      have hd2 : (jN r : Rat) = (d : Rat) * (d : Rat) := by rw [← Rat.natCast_mul, ← hd, hdm]
      have hnum : (eU r.num : Rat) = (n : Rat) * (n : Rat) := by
        have h0 : 0 ≤ (eU r.num : Rat) := by
          have h3 : bH r * (jN r : Rat) = (eU r.num : Rat) := by unfold bH; rw [Rat.div_mul_cancel hden]
          rw [← h3]; exact f4 hp (by rw [hd2]; exact rP _)
        have h4 : 0 ≤ eU r.num := by
          have : ((0 : Int) : Rat) ≤ (eU r.num : Rat) := h0
          exact Rat.intCast_le_intCast.1 this
        have h5 : (eU r.num) = ((r.num.mag : Nat) : Int) := by have := gh r.num; omega
        rw [h5, Rat.intCast_natCast, hn, Rat.natCast_mul]
      have hd0 : (d : Rat) ≠ 0 := fun e => hden (by rw [hd2, e]; grind)
      unfold bH
      rw [hnum, hd2]
      exact div_sq hd0
theorem my [K : Key] {x : GR} (hx : Tm x) : ja x = 0 := by
  obtain ⟨hp, hr, h⟩ := hx.ok
  unfold ja
  rw [qcheck hp, qcheck hr, iU hr]
  rcases h with ⟨h1, h2⟩ | ⟨h1, h2⟩
  · rw [h1, h2]; rfl
  · rw [show rsgn (bH x.r) = 1 by unfold rsgn; rw [if_neg (by grind), if_pos h1], vi hr (by grind) h2]; rfl
theorem vcheck [K : Key] {i : Iv} (h : Wv i) : fe i = 0 := by
  unfold fe
  rw [my h.1.1, my h.1.2]
  have hc : bE (aJ i) (aE i) = -1 := by
    unfold bE aJ aE
    show (bif ((ao i.lo i.hi) != 0) then (ao i.lo i.hi) else bif (i.openLo == !i.openHi) then 0 else bif !i.openHi then (-1) else 1) = -1
    rw [h.1.1.cmp h.1.2]
    rcases Nat.lt_trichotomy (tk i.lo) (tk i.hi) with e | e | e
    · rw [i9 e]; rfl
    · obtain ⟨o1, o2⟩ := h.2.2 e
      rw [e, f7, o1, o2]; rfl
    · have := h.2.1; omega
  rw [hc]; rfl
end Go.Sx
namespace Go.Sx
section
variable {α : Type} [Inhabited α] {eqf : α → α → Bool} {same : α → α → GR → Bool} {red : α → GR → α} {L out : List (U α)} {x : Nat} {t t' : GR} {f : α}
def Vl [K : Key] (out : List (U α)) : Prop := ∀ u ∈ out, Tv u.iv ∧ tk u.iv.lo ≤ tk u.iv.hi
omit [Inhabited α] in
theorem Vl.app [K : Key] {y : U α} (h : Vl out) (h1 : Tv y.iv) (h2 : tk y.iv.lo ≤ tk y.iv.hi) : Vl (out ++ [y]) := fun u hu => by
  rcases List.mem_append.1 hu with hu | hu
  · exact h u hu
  · rw [List.mem_singleton.1 hu]; exact ⟨h1, h2⟩
omit [Inhabited α] in
theorem Vl.set [K : Key] {y : U α} {i : Nat} (h : Vl out) (h1 : Tv y.iv) (h2 : tk y.iv.lo ≤ tk y.iv.hi) : Vl (out.set i y) := fun u hu => by
  rcases List.mem_or_eq_of_mem_set hu with hu | rfl
  · exact h u hu
  · exact ⟨h1, h2⟩
theorem newPt_or : jK same red L out x = out ∨ jK same red L out x = out ++ [⟨(gt L x).iv, red (gt L x).f (gt L x).iv.lo⟩] := by
  unfold jK
  cases (((decide (((x + 1 : Nat) : Int) < ((L.length : Nat) : Int))) && (decide (((gt L (x + 1)).iv).lo = ((gt L x).iv).lo))) && (same ((gt L (x + 1)).f) ((gt L x).f) (((gt L x).iv).lo)))
  · exact .inr rfl
  · exact .inl rfl
theorem pt_any [K : Key] (hx : gt L x = ptU t f) (ht : Tm t) (h : Vl out) : Vl (dx eqf same red L out x) ∧ (dx eqf same red L out x).length ≤ out.length + 1 := by
  have hn : Vl (jK same red L out x) ∧ (jK same red L out x).length ≤ out.length + 1 := by
    rcases newPt_or (same := same) (red := red) (L := L) (out := out) (x := x) with e | e
    · rw [e]; exact ⟨h, Nat.le_succ _⟩
    · rw [e, hx]; exact ⟨h.app ⟨ht, ht⟩ (Nat.le_refl _), by simp⟩
  unfold dx
  rw [hx, show aH (ptU t f).iv = true from decide_eq_true rfl, Bool.not_true, cond_false, cond_false]
  cases hb : ri L out x with
  | false => exact hn
  | true =>
    rw [cond_true]
    cases same (gt out (out.length - 1)).f (ptU t f).f (ptU t f).iv.lo with
    | false => exact hn
    | true =>
      obtain ⟨b1, _, _⟩ := iD.1 hb
      have hm := h _ (fh b1)
      exact ⟨h.set hm.1 hm.2, by rw [cond_true, List.length_set]; exact Nat.le_succ _⟩
theorem pt_left [K : Key] (hx : gt L x = ptU t f) (ht : Tm t) (h : Vl out) (hn : x + 1 < L.length) (h2 : (gt L (x + 1)).iv.lo = t) (h3 : same (gt L (x + 1)).f f t = true) : Vl (dx eqf same red L out x) ∧ (dx eqf same red L out x).length ≤ out.length := by
  have hp : jK same red L out x = out := by
    unfold jK
    rw [hx]
    show (bif (((decide (((x + 1 : Nat) : Int) < ((L.length : Nat) : Int))) && (decide ((gt L (x + 1)).iv.lo = t))) && (same ((gt L (x + 1)).f) f t)) then out else _) = out
    rw [decide_eq_true (by omega : ((x + 1 : Nat) : Int) < ((L.length : Nat) : Int)), h2, decide_eq_true rfl, h3]
    rfl
  unfold dx
  rw [hp, hx, show aH (ptU t f).iv = true from decide_eq_true rfl, Bool.not_true, cond_false, cond_false]
  cases hb : ri L out x with
  | false => exact ⟨h, Nat.le_refl _⟩
  | true =>
    rw [cond_true]
    cases same (gt out (out.length - 1)).f (ptU t f).f (ptU t f).iv.lo with
    | false => exact ⟨h, Nat.le_refl _⟩
    | true =>
      obtain ⟨b1, _, _⟩ := iD.1 hb
      have hm := h _ (fh b1)
      exact ⟨h.set hm.1 hm.2, by rw [cond_true, List.length_set]; exact Nat.le_refl _⟩
theorem vU (hx : gt L x = lB t t' f) : ∃ b, ik L out x = out ++ [⟨⟨t, t', b, true⟩, f⟩] := by
  unfold ik
  rw [hx]
  cases ((((decide (((x : Nat) : Int) > 0)) && (aH ((gt L (x - 1)).iv))) && (decide (((gt L (x - 1)).iv).lo = ((lB t t' f).iv).lo))) && (!(iC out (((lB t t' f).iv).lo))))
  · exact ⟨true, rfl⟩
  · exact ⟨false, rfl⟩
theorem gap_any [K : Key] (heq : ∀ a b, eqf a b = true → a = b) (hx : gt L x = lB t t' f) (ht : Tm t) (ht' : Tm t') (hlt : tk t < tk t') (h : Vl out) :
    Vl (dx eqf same red L out x) ∧ (dx eqf same red L out x).length ≤ out.length + 1 ∧ 0 < (dx eqf same red L out x).length ∧ (lst (dx eqf same red L out x)).iv.hi = t' ∧ (lst (dx eqf same red L out x)).iv.lo ≠ t' ∧ (lst (dx eqf same red L out x)).f = f := by
  have hne : t ≠ t' := fun e => by rw [e] at hlt; omega
  have hn : Vl (ik L out x) ∧ (ik L out x).length ≤ out.length + 1 ∧ 0 < (ik L out x).length ∧ (lst (ik L out x)).iv.hi = t' ∧ (lst (ik L out x)).iv.lo ≠ t' ∧ (lst (ik L out x)).f = f := by
    obtain ⟨b, e⟩ := vU (out := out) hx
    rw [e, iJ]
    exact ⟨h.app ⟨ht, ht'⟩ (Nat.le_of_lt hlt), by simp, by simp, rfl, hne, rfl⟩
  unfold dx
  rw [show aH (gt L x).iv = false by rw [hx]; exact decide_eq_false hne, Bool.not_false, cond_true, cond_true]
  cases hb : ri L out x with
  | false => exact hn
  | true =>
    rw [cond_true]
    cases hq : ((!((gt out (out.length - 1)).iv).openHi) && (eqf ((gt out (out.length - 1)).f) ((gt L x).f))) with
    | false => exact hn
    | true =>
      obtain ⟨b1, b2, b3⟩ := iD.1 hb
      have hm := h _ (fh b1)
      rw [Bool.and_eq_true] at hq
      have e := heq _ _ hq.2
      rw [hx] at b2 e ⊢
      have b2 : (lst out).iv.hi = t := b2
      have hl : tk (lst out).iv.lo < tk t' := by rw [b2] at hm; omega
      rw [cond_true]
      show Vl (out.set (out.length - 1) ⟨⟨(lst out).iv.lo, t', (lst out).iv.openLo, true⟩, (lst out).f⟩) ∧ (out.set (out.length - 1) (⟨⟨(lst out).iv.lo, t', (lst out).iv.openLo, true⟩, (lst out).f⟩ : U α)).length ≤ _ ∧ 0 < (out.set (out.length - 1) (⟨⟨(lst out).iv.lo, t', (lst out).iv.openLo, true⟩, (lst out).f⟩ : U α)).length ∧ (lst (out.set (out.length - 1) ⟨⟨(lst out).iv.lo, t', (lst out).iv.openLo, true⟩, (lst out).f⟩)).iv.hi = t' ∧ (lst (out.set (out.length - 1) ⟨⟨(lst out).iv.lo, t', (lst out).iv.openLo, true⟩, (lst out).f⟩)).iv.lo ≠ t' ∧ (lst (out.set (out.length - 1) ⟨⟨(lst out).iv.lo, t', (lst out).iv.openLo, true⟩, (lst out).f⟩)).f = f
      rw [lst_set b1, List.length_set]
      exact ⟨h.set ⟨hm.1.1, ht'⟩ (Nat.le_of_lt hl), Nat.le_succ _, b1, rfl, fun e => by
        have e : (lst out).iv.lo = t' := e
        rw [e] at hl; omega, e⟩
theorem len_le [K : Key] (heq : ∀ a b, eqf a b = true → a = b) {n : List (U α)} (hw : ∀ u ∈ n, Wv u.iv) (hr : ∀ u ∈ n, ∀ t, Tm t → same u.f u.f t = true) :
    ∀ (s p : List (U α)), n = p ++ s → (Vl (eQ (dx eqf same red (n.flatMap atU)) [] (p.flatMap atU).length) ∧ (eQ (dx eqf same red (n.flatMap atU)) [] (p.flatMap atU).length).length ≤ p.length) → (eQ (dx eqf same red (n.flatMap atU)) [] (n.flatMap atU).length).length ≤ n.length
  | [], p, hn, hp => by
    rw [List.append_nil] at hn
    rw [← hn] at hp
    exact hp.2
  | y :: s, p, hn, hp => by
    refine len_le heq hw hr s (p ++ [y]) (by rw [hn]; simp) ?_
    have hL : n.flatMap atU = p.flatMap atU ++ (atU y ++ s.flatMap atU) := by rw [hn]; simp
    have hy : y ∈ n := by rw [hn]; simp
    have hwy := hw y hy
    have hc : ((p ++ [y]).flatMap atU).length = (p.flatMap atU).length + (atU y).length := by simp
    rw [hc, List.length_append, List.length_singleton]
    generalize hcc : (p.flatMap atU).length = c at *
    generalize hLL : n.flatMap atU = L at *
    have hLl : L.length = c + ((atU y).length + (s.flatMap atU).length) := by rw [hL, List.length_append, List.length_append, hcc]
    have hI : ∀ k, eQ (dx eqf same red L) [] (c + (k + 1)) = dx eqf same red L (eQ (dx eqf same red L) [] (c + k)) (c + k) := fun _ => rfl
    have hgt : ∀ k, k < (atU y).length → gt L (c + k) = gt (atU y) k := fun k hk => by
      rw [hL, ← hcc]
      have : ∀ (A B : List (U α)), gt (A ++ B) (A.length + k) = gt B k := fun A B => by simp [gt, List.getD, List.getElem?_append_right]
      rw [this, fA hk]
    by_cases hi : y.iv.lo = y.iv.hi
    · obtain ⟨o1, o2⟩ := hwy.2.2 (by rw [hi])
      have ea : atU y = [ptU y.iv.lo y.f] := by
        unfold atU aH
        rw [o1, decide_eq_true hi]; rfl
      have hx0 : gt L (c + 0) = ptU y.iv.lo y.f := by rw [hgt 0 (by rw [ea]; simp), ea]; rfl
      rw [ea]
      show Vl (eQ _ [] (c + (0 + 1))) ∧ (eQ _ [] (c + (0 + 1))).length ≤ _
      rw [hI 0]
      have := pt_any (eqf := eqf) (same := same) (red := red) hx0 hwy.1.1 hp.1
      exact ⟨this.1, Nat.le_trans this.2 (Nat.succ_le_succ hp.2)⟩
    · have hini : aH y.iv = false := decide_eq_false hi
      have hlt : tk y.iv.lo < tk y.iv.hi := by
        have := hwy.2.1
        by_cases e : tk y.iv.lo = tk y.iv.hi
        · exact absurd ((hwy.1.1.inj hwy.1.2).1 e) hi
        · omega
      have hE : ∀ (k : Nat), (Vl (eQ (dx eqf same red L) [] (c + k)) ∧ (eQ (dx eqf same red L) [] (c + k)).length ≤ p.length) → gt L (c + k) = lB y.iv.lo y.iv.hi y.f → (y.iv.openHi = false → gt L (c + (k + 1)) = ptU y.iv.hi y.f) →
          (Vl (eQ (dx eqf same red L) [] (c + (k + 1 + (bif y.iv.openHi then 0 else 1)))) ∧ (eQ (dx eqf same red L) [] (c + (k + 1 + (bif y.iv.openHi then 0 else 1)))).length ≤ p.length + 1) := fun k h1 h2 h3 => by
        obtain ⟨g1, g2, g3, g4, g5, g6⟩ := gap_any (eqf := eqf) (same := same) (red := red) heq h2 hwy.1.1 hwy.1.2 hlt h1.1
        rw [← hI k] at g1 g2 g3 g4 g5 g6
        cases ho : y.iv.openHi with
        | true => exact ⟨g1, Nat.le_trans g2 (Nat.succ_le_succ h1.2)⟩
        | false =>
          show Vl (eQ _ [] (c + (k + 1 + 1))) ∧ (eQ _ [] (c + (k + 1 + 1))).length ≤ _
          rw [hI (k + 1)]
          rw [uT (h3 ho) g3 g4 (by rw [g4]; exact g5) (by rw [g6]; exact hr y hy _ hwy.1.2)]
          have hm := g1 _ (fh g3)
          exact ⟨g1.set hm.1 hm.2, by rw [List.length_set]; exact Nat.le_trans g2 (Nat.succ_le_succ h1.2)⟩
      cases hol : y.iv.openLo with
      | false =>
        have ea : atU y = ptU y.iv.lo y.f :: lB y.iv.lo y.iv.hi y.f :: (bif y.iv.openHi then [] else [ptU y.iv.hi y.f]) := by
          unfold atU; rw [hol, hini]; rfl
        have hl2 : (atU y).length = 1 + 1 + (bif y.iv.openHi then 0 else 1) := by rw [ea]; cases y.iv.openHi <;> rfl
        have hx0 : gt L (c + 0) = ptU y.iv.lo y.f := by rw [hgt 0 (by rw [hl2]; omega), ea]; rfl
        have hx1 : gt L (c + 1) = lB y.iv.lo y.iv.hi y.f := by rw [hgt 1 (by rw [hl2]; omega), ea]; rfl
        rw [hl2]
        have st1 := pt_left (eqf := eqf) (same := same) (red := red) (out := eQ (dx eqf same red L) [] c) hx0 hwy.1.1 hp.1 (by rw [hl2] at hLl; omega) (by show (gt L (c + 1)).iv.lo = _; rw [hx1]; rfl) (by show same (gt L (c + 1)).f _ _ = true; rw [hx1]; exact hr y hy _ hwy.1.1)
        exact hE 1 ⟨st1.1, Nat.le_trans st1.2 hp.2⟩ hx1 (fun e => by rw [hgt 2 (by rw [hl2, e]; decide), ea, e]; rfl)
      | true =>
        have ea : atU y = lB y.iv.lo y.iv.hi y.f :: (bif y.iv.openHi then [] else [ptU y.iv.hi y.f]) := by
          unfold atU; rw [hol, hini]; rfl
        have hl2 : (atU y).length = 0 + 1 + (bif y.iv.openHi then 0 else 1) := by rw [ea]; cases y.iv.openHi <;> rfl
        have hx0 : gt L (c + 0) = lB y.iv.lo y.iv.hi y.f := by rw [hgt 0 (by rw [hl2]; omega), ea]; rfl
        rw [hl2]
        exact hE 0 hp hx0 (fun e => by rw [hgt 1 (by rw [hl2, e]; decide), ea, e]; rfl)
end
end Go.Sx
namespace Go.Sx
section
variable [K : Key]
abbrev NFl (n : List (U Ln)) : Prop := NF ce bk aA n
abbrev Sml (n m : List (U Ln)) : Prop := Sem bk n m
structure Dk (D : Ln → Prop) : Prop where
  ru : Ru D bk aA
  ok : ∀ f, D f → LOk f
theorem Dk.rc {D : Ln → Prop} (h : Dk D) {t : GR} (ht : Tm t) {f g : Ln} (hf : D f) (hg : D g) (e : bk f g t = true) : aA f t = aA g t :=
  md (h.ok _ hf) (h.ok _ hg) ht.ok.tok ((fi (h.ok _ hf) (h.ok _ hg) ht.ok.tok).1 e)
theorem Dk.uniq {D : Ln → Prop} (h : Dk D) {n m : List (U Ln)} (hn : NFl n) (hm : NFl m) (dn : ∀ v ∈ n, D v.f) (dm : ∀ v ∈ m, D v.f) (hS : Sml n m) : n = m :=
  vP h.ru (fun t ht f g hf hg e => h.rc ht hf hg e) (fun a => (iK a a).2 rfl) hn hm dn dm hS
structure NFL (D : Ln → Prop) (n N : List (U Ln)) : Prop where
  nf : NFl N
  ok : ∀ x ∈ N, D x.f
  sem : Sml n N
  len : N.length ≤ n.length
theorem Dk.normal {D : Ln → Prop} (h : Dk D) {n : List (U Ln)} (hW : ∀ x ∈ n, Wv x.iv ∧ D x.f) (hD : n.Pairwise fun a b => Dj a.iv b.iv) : ∃ N, az n = (N, 0) ∧ NFL D n N := by
  obtain ⟨s1, s2⟩ := mN (fun x hx => (hW x hx).1.1)
  have hs := mM (fun x hx => (hW x hx).1) hD s1 s2
  have hWs : ∀ x ∈ ae n, Wv x.iv ∧ D x.f := fun x hx => hW x (s1.mem_iff.1 hx)
  have e := kq s1.length_eq fun i h0 h1 => (tu (fun x hx => (hW x hx).1) s1 s2).2 hD i h0 (by rw [s1.length_eq]; exact h1)
  rw [kr, mZ] at e
  have hsem := sem_loop (eqf := ce) (red := aA) h.ru (fun a b => (iK a b).1) hWs hs
  have hl := len_le (eqf := ce) (same := bk) (red := aA) (fun a b => (iK a b).1) (fun x hx => (hWs x hx).1) (fun x hx t ht => h.ru.refl t ht _ (hWs x hx).2) _ [] rfl ⟨fun _ h => (by cases h), Nat.le_refl 0⟩
  rw [s1.length_eq] at hl
  refine ⟨_, e, hsem.1, hsem.2.1, ⟨fun t ht u hu hi => ?_, fun q u hu hi => ?_, fun t ht w hw hi => ?_, fun q w hw hi => ?_⟩, hl⟩
  · obtain ⟨w, a, b⟩ := hsem.2.2.s1 t ht u hu hi; exact ⟨w, s1.mem_iff.1 a, b⟩
  · obtain ⟨w, a, b⟩ := hsem.2.2.s2 q u hu hi; exact ⟨w, s1.mem_iff.1 a, b⟩
  · exact hsem.2.2.c1 t ht w (s1.mem_iff.2 hw) hi
  · exact hsem.2.2.c2 q w (s1.mem_iff.2 hw) hi
theorem Sml.app {n n' N N' : List (U Ln)} (h : Sml n N) (h' : Sml n' N') : Sml (n ++ n') (N ++ N') := by
  refine ⟨fun t ht u hu hi => ?_, fun q u hu hi => ?_, fun t ht u hu hi => ?_, fun q u hu hi => ?_⟩
  all_goals rcases List.mem_append.1 hu with hu | hu
  · obtain ⟨w, a, b⟩ := h.s1 t ht u hu hi; exact ⟨w, List.mem_append_left _ a, b⟩
  · obtain ⟨w, a, b⟩ := h'.s1 t ht u hu hi; exact ⟨w, List.mem_append_right _ a, b⟩
  · obtain ⟨w, a, b⟩ := h.s2 q u hu hi; exact ⟨w, List.mem_append_left _ a, b⟩
  · obtain ⟨w, a, b⟩ := h'.s2 q u hu hi; exact ⟨w, List.mem_append_right _ a, b⟩
  · obtain ⟨w, a, b⟩ := h.c1 t ht u hu hi; exact ⟨w, List.mem_append_left _ a, b⟩
  · obtain ⟨w, a, b⟩ := h'.c1 t ht u hu hi; exact ⟨w, List.mem_append_right _ a, b⟩
  · obtain ⟨w, a, b⟩ := h.c2 q u hu hi; exact ⟨w, List.mem_append_left _ a, b⟩
  · obtain ⟨w, a, b⟩ := h'.c2 q u hu hi; exact ⟨w, List.mem_append_right _ a, b⟩
def Plc (q : Nat) : Prop := (∃ t, Tm t ∧ q = 2 * tk t) ∨ ∃ k, q = 2 * k + 1
theorem Sml.place {n N : List (U Ln)} (h : Sml n N) {u : U Ln} (hu : u ∈ N) {q : Nat} (hq : Plc q) (hi : inU u.iv q) : ∃ w ∈ n, inU w.iv q := by
  rcases hq with ⟨t, ht, rfl⟩ | ⟨k, rfl⟩
  · obtain ⟨w, a, b, _⟩ := h.s1 t ht u hu hi; exact ⟨w, a, b⟩
  · obtain ⟨w, a, b, _⟩ := h.s2 k u hu hi; exact ⟨w, a, b⟩
theorem dj_plc {x y : Iv} (hx : Wv x) (hy : Wv y) (h : ∀ q, Plc q → ¬ (inU x q ∧ inU y q)) : Dj x y := by
  have a := hx.le
  have b := hy.le
  by_cases e : eI x ≤ eI y
  · left
    have := h (eI y) (by rcases gi y with ⟨_, e⟩ | ⟨_, e⟩; exact .inl ⟨_, hy.1.1, e⟩; exact .inr ⟨_, e⟩)
    unfold inU at this
    omega
  · right
    have := h (eI x) (by rcases gi x with ⟨_, e⟩ | ⟨_, e⟩; exact .inl ⟨_, hx.1.1, e⟩; exact .inr ⟨_, e⟩)
    unfold inU at this
    omega
theorem no_dj {x y : Iv} (h : Dj x y) (q : Nat) : ¬ (inU x q ∧ inU y q) := by
  unfold Dj at h; unfold inU
  omega
theorem NFl.dj {n : List (U Ln)} (h : NFl n) : n.Pairwise fun a b => Dj a.iv b.iv := h.ord.imp fun h => .inl h
theorem Dk.self {D : Ln → Prop} (h : Dk D) {n : List (U Ln)} (hn : NFl n) (dn : ∀ v ∈ n, D v.f) : az n = (n, 0) := by
  obtain ⟨N, e, k⟩ := h.normal (fun x hx => ⟨hn.wv x hx, dn x hx⟩) hn.dj
  rw [e, h.uniq k.nf hn k.ok dn (k.sem.symm h.ru dn k.ok)]
end
end Go.Sx
namespace Go.Sx
open Go Go.RowKit Go.Proofs
instance yR4_17 : Bu Tryz.prog 55 [] [] (.agg #[]) := Bu.of bld55 rfl rfl
instance yR4_18 : Ie Tryz.prog 55 := ⟨fun hx => vt uu55 rfl hx⟩
instance yR4_19 : Cf Tryz.prog 76 := ⟨Tryz.call76⟩
instance yR4_20 : Cf Tryz.prog 75 := ⟨Tryz.call75⟩
end Go.Sx
namespace Go.Sx
open Go Go.RowKit Go.Proofs Go.Sort Go.Lib
section
variable {P : Program} {α β : Type} [Inhabited α] [Cod β]
theorem ob (val : α → β) (d : Array α) : (flatK (fun x => Cod.enc (val x)) (Cod.n β) d).toList = flat (d.toList.map val) := by
  apply List.ext_getElem?
  intro t
  by_cases ht : t < d.size * Cod.n β
  · have hn : 0 < Cod.n β := Cod.pos
    have hi : t / Cod.n β < d.size := Nat.div_lt_of_lt_mul (by rw [Nat.mul_comm]; exact ht)
    have hm : t % Cod.n β < Cod.n β := Nat.mod_lt _ hn
    have e1 : (d.toList.map val)[t / Cod.n β]? = some (val d[t / Cod.n β]!) := by
      rw [List.getElem?_map, Array.getElem?_toList, Array.getElem?_eq_getElem hi, Option.map_some, getElem!_pos d _ hi]
    have e2 := pz e1 hm
    rw [show t / Cod.n β * Cod.n β + t % Cod.n β = t by rw [Nat.mul_comm]; exact Nat.div_add_mod t _] at e2
    have hs : t < (flatK (fun x => Cod.enc (val x)) (Cod.n β) d).size := by rw [size_flatK]; exact ht
    have hl : t % Cod.n β < (Cod.enc (val d[t / Cod.n β]!)).length := by rw [Cod.len]; exact hm
    rw [e2, Array.getElem?_toList, Array.getElem?_eq_getElem hs, ← getElem!_pos _ t hs, get_flatK _ _ _ _ ht, List.getElem?_eq_getElem hl]
    exact congrArg some (getElem!_pos (Cod.enc (val d[t / Cod.n β]!)) (t % Cod.n β) hl)
  · rw [List.getElem?_eq_none (by rw [Array.length_toList, size_flatK]; omega), List.getElem?_eq_none (by rw [bO, List.length_map, Array.length_toList]; omega)]
theorem uQ (enc : α → List Value) (k : Nat) (w : World) (blk n : Nat) (d : Array α) (os : Array Obj) :
    (∀ j, j < w.heap.size → j ≠ blk → (sortWorldK enc k w blk 0 n d os).heap[j]? = w.heap[j]?) ∧
    (∀ cur e fr, w.heap[blk]? = some (.cells cur e fr) → (sortWorldK enc k w blk 0 n d os).heap[blk]? = some (.cells (putCells id 0 (flatK enc k d) cur) e fr)) ∧
    w.heap.size ≤ (sortWorldK enc k w blk 0 n d os).heap.size := by
  have hh : (sortWorldK enc k w blk 0 n d os).heap = (w.heap.modify blk (onCells (putCells id 0 (flatK enc k d)))) ++ os := rfl
  have hz : (w.heap.modify blk (onCells (putCells id 0 (flatK enc k d)))).size = w.heap.size := by simp
  refine ⟨fun j hj hne => ?_, fun cur e fr hc => ?_, ?_⟩
  · rw [hh, Array.getElem?_append_left (by rw [hz]; exact hj), Array.getElem?_modify, if_neg (fun e => hne e.symm)]
  · have hlt : blk < w.heap.size := (Array.getElem?_eq_some_iff.1 hc).1
    rw [hh, Array.getElem?_append_left (by rw [hz]; exact hlt), Array.getElem?_modify, if_pos rfl, hc]; rfl
  · rw [hh, Array.size_append, hz]; omega
theorem put_take (F cur : Array Value) (h : F.size ≤ cur.size) : (putCells id 0 F cur).toList.take F.size = F.toList := by
  apply List.ext_getElem?
  intro t
  by_cases ht : t < F.size
  · rw [List.getElem?_take_of_lt ht, Array.getElem?_toList, Array.getElem?_toList]
    unfold putCells
    rw [Array.getElem?_mapIdx, Array.getElem?_eq_getElem (by omega : t < cur.size), Option.map_some, if_pos ⟨Nat.zero_le _, by omega⟩, Array.getElem?_eq_getElem ht, Nat.sub_zero]
    show some F[t]! = _
    rw [getElem!_pos F t ht]
  · rw [List.getElem?_eq_none (by rw [List.length_take]; omega), List.getElem?_eq_none (by rw [Array.length_toList]; omega)]
theorem sort_own {val : α → β} {e : TypeId} {sv : Value} {d D' : Array α} {F : FuncId} {more : List Value} {w0 w : World} {B : Asn} {p : Prop} (hd0 : 0 < d.size) (hD : D'.size = d.size) (hp : p)
    (hbel : Below w0.heap.size w0 w) (hsep : ∃ U, Sep w0.heap.size w [Asn.row (α := β) e sv (d.toList.map val), B] U)
    (hC : ∀ blk cap, sv = .slice (some ⟨blk, 0, none⟩) d.size cap → HoldsK (fun x => Cod.enc (val x)) (Cod.n β) w blk 0 d → blk < w.heap.size → w0.heap.size ≤ blk →
      Calls P F (sv :: more).toArray w fun r w' => r = .returned (.tuple #[]) ∧ ∃ n os, w' = sortWorldK (fun x => Cod.enc (val x)) (Cod.n β) w blk 0 n D' os) :
    Calls P F (sv :: more).toArray w (RetY w0 (fun v => v = .tuple #[] ∧ p) (fun _ => [Asn.row (α := β) e sv (D'.toList.map val), B])) := by
  obtain ⟨U, f, V, hU, hdis, hlt, ⟨hown, hf⟩, hB⟩ := hsep
  have hl1 : (d.toList.map val).length = d.size := by rw [List.length_map, Array.length_toList]
  have hl2 : (D'.toList.map val).length = d.size := by rw [List.length_map, Array.length_toList, hD]
  rcases hown.2 with ⟨_, h0⟩ | ⟨blk, cap, cur, hv, _, hg, hcap, hmx, hcs, htk⟩
  · omega
  rw [hl1] at hv hcap htk
  have hfb : f blk := (hf blk).2 (by rw [hv]; rfl)
  obtain ⟨hlo, hhi⟩ := hlt blk hfb
  have hcur : d.size * Cod.n β ≤ cur.size := by rw [hcs]; exact Nat.mul_le_mul_right _ hcap
  have hH : HoldsK (fun x => Cod.enc (val x)) (Cod.n β) w blk 0 d := by
    intro j hj
    have hj' : j < d.size * Cod.n β := by rw [← size_flatK (fun x => Cod.enc (val x)) (Cod.n β) d]; exact hj
    refine ⟨?_, ?_⟩
    · have h1 : cur[j]? = some (flatK (fun x => Cod.enc (val x)) (Cod.n β) d)[j]! := by
        have h2 : (cur.toList.take (d.size * Cod.n β))[j]? = (flat (d.toList.map val))[j]? := by rw [htk]
        rw [List.getElem?_take_of_lt hj', Array.getElem?_toList, ← ob, Array.getElem?_toList, Array.getElem?_eq_getElem hj] at h2
        rw [h2, getElem!_pos _ j hj]
      unfold World.cell?
      rw [hg, Nat.zero_add]
      exact h1
    · unfold World.frozen?
      rw [hg]
      simp
  refine (hC blk cap hv hH hhi hlo).mono fun r w' ⟨hr, n, os, hw⟩ => ?_
  subst hw
  obtain ⟨g1, g2, g3⟩ := uQ (fun x => Cod.enc (val x)) (Cod.n β) w blk n D' os
  refine ⟨.tuple #[], hr, ⟨rfl, hp⟩, ⟨hbel.os, hbel.tape, hbel.output, Nat.le_trans hbel.size g3, fun k hk => ?_, Nat.le_trans hbel.drawn (Nat.le_add_right _ _)⟩, U, f, V, hU, hdis, fun k hk => ⟨(hlt k hk).1, Nat.lt_of_lt_of_le (hlt k hk).2 g3⟩, ⟨⟨bO _, .inr ⟨blk, cap, _, ?_, Nat.zero_le _, g2 cur e (0, 0) hg, ?_, hmx, ?_, ?_⟩⟩, hf⟩, hB.keep g3 fun k hk => ?_⟩
  · rw [g1 k (Nat.lt_of_lt_of_le hk hbel.size) (by omega)]
    exact hbel.block k hk
  · rw [hl2]; exact hv
  · rw [hl2]; exact hcap
  · unfold putCells; rw [Array.size_mapIdx]; exact hcs
  · have hF : (flatK (fun x => Cod.enc (val x)) (Cod.n β) D').size = d.size * Cod.n β := by rw [size_flatK, hD]
    rw [hl2, ← hF, put_take _ _ (by rw [hF]; exact hcur), ob]
  · exact g1 k ((hB.range k hk).2) fun ek => hdis blk hfb (ek ▸ hk)
theorem lays_of {val : α → β} {g : Nat} {cf : α → α → Int} {blk size : Nat} {w : World} {p : α → α → Prop}
    (ct : ∀ x y w, Calls P g #[.agg (Cod.enc (val x)).toArray, .agg (Cod.enc (val y)).toArray] w (dh w (.int .i64 (cf x y)) (p x y))) : CmpLays P g #[] (fun x => Cod.enc (val x)) (Cod.n β) cf blk 0 size w := by
  intro m os dk _ x y
  refine (ct x y (sortWorldK (fun x => Cod.enc (val x)) (Cod.n β) w blk 0 m dk os)).mono fun r w' ⟨hr, _, hb⟩ => ⟨hr, ?_⟩
  generalize sortWorldK (fun x => Cod.enc (val x)) (Cod.n β) w blk 0 m dk os = W at *
  refine ⟨w'.drawn - W.drawn, w'.heap.extract W.heap.size w'.heap.size, ?_⟩
  have hheap : w'.heap = W.heap ++ w'.heap.extract W.heap.size w'.heap.size := by
    apply Array.ext_getElem?
    intro k
    by_cases hk : k < W.heap.size
    · rw [Array.getElem?_append_left hk, hb.block k hk]
    · rw [Array.getElem?_append_right (by omega), Array.getElem?_extract]
      by_cases hk2 : k < w'.heap.size
      · rw [if_pos (by have := hb.size; omega), show W.heap.size + (k - W.heap.size) = k by omega]
      · rw [if_neg (by omega), Array.getElem?_eq_none (by omega)]
  have hd : w'.drawn = W.drawn + (w'.drawn - W.drawn) := by have := hb.drawn; omega
  have hR : grow (W.drewN (w'.drawn - W.drawn)) (w'.heap.extract W.heap.size w'.heap.size) = (⟨W.heap ++ w'.heap.extract W.heap.size w'.heap.size, W.tape, W.drawn + (w'.drawn - W.drawn), W.os, W.output⟩ : World) := rfl
  rw [hR, ← hheap, ← hd, ← hb.os, ← hb.tape, ← hb.output]
end
end Go.Sx
namespace Go.Sx
open Go Go.RowKit
theorem j1 {v : Value} (h : nz v) : v.cells.toList = [v] := by obtain ⟨_, _, _, rfl⟩ := h; rfl
theorem pp {v : Value} (h : nz v) : ([v].all Value.oneCell') = true := by obtain ⟨_, _, _, rfl⟩ := h; rfl
theorem NN.isl {v : Value} {n : Nat} (h : NN v n) : nz v := h.sl.is
section
variable {P : Program} {w0 : World} {F : List (Nat × Value)}
end
end Go.Sx
