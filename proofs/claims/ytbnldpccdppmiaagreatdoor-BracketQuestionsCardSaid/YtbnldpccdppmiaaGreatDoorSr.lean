/- A part of the proof that the law BracketQuestions/Checks answers true at every input and leaves its arguments as they were. -/
import Derived.Test.YtbnldpccdppmiaaGreatDoorProg
import Derived.Test.YtbnldpccdppmiaaGreatDoorP1
import Derived.Test.YtbnldpccdppmiaaGreatDoorPe
import Derived.Test.YtbnldpccdppmiaaGreatDoorA8
set_option linter.unusedVariables false
set_option linter.unusedSimpArgs false
namespace Go.Proofs
open Go.Shelf
def Tryz.laysSort_ren : Go.Shelf.Ren := ⟨fun | 6 => 72 | 15 => 91 | 14 => 90 | 28 => 113 | 29 => 96 | 20 => 105 | 21 => 106 | 22 => 107 | 23 => 108 | 24 => 109 | 25 => 110 | 26 => 111 | 27 => 112 | 46 => 124 | 47 => 125 | 48 => 126 | 49 => 127 | 50 => 128 | 57 => 141 | n => n, fun | 22 => 103 | 24 => 107 | 25 => 109 | 3 => 3 | 39 => 127 | 0 => 0 | 53 => 150 | 55 => 113 | 4 => 4 | 46 => 143 | 45 => 142 | 50 => 147 | 5 => 5 | 9 => 9 | 66 => 163 | 70 => 167 | 76 => 183 | 77 => 184 | n => n, fun | n => n⟩
theorem Tryz.laysSort : Go.Proofs.SlLaysF0.n6 Tryz.prog Tryz.laysSort_ren := {
  mixed := by kernel_rfl
  f6 := ⟨Tryz.f72.name, by decide, Tryz.func72.trans (congrArg some (by kernel_rfl))⟩
  f14 := ⟨Tryz.f90.name, by decide, Tryz.func90.trans (congrArg some (by kernel_rfl))⟩
  f15 := Tryz.func91.trans (congrArg some (by kernel_rfl))
  f20 := ⟨Tryz.f105.name, by decide, Tryz.func105.trans (congrArg some (by kernel_rfl))⟩
  f21 := ⟨Tryz.f106.name, by decide, Tryz.func106.trans (congrArg some (by kernel_rfl))⟩
  f22 := ⟨Tryz.f107.name, by decide, Tryz.func107.trans (congrArg some (by kernel_rfl))⟩
  f23 := ⟨Tryz.f108.name, by decide, Tryz.func108.trans (congrArg some (by kernel_rfl))⟩
  f24 := ⟨Tryz.f109.name, by decide, Tryz.func109.trans (congrArg some (by kernel_rfl))⟩
  f25 := ⟨Tryz.f110.name, by decide, Tryz.func110.trans (congrArg some (by kernel_rfl))⟩
  f26 := ⟨Tryz.f111.name, by decide, Tryz.func111.trans (congrArg some (by kernel_rfl))⟩
  f27 := ⟨Tryz.f112.name, by decide, Tryz.func112.trans (congrArg some (by kernel_rfl))⟩
  f28 := Tryz.func113.trans (congrArg some (by kernel_rfl))
  f29 := Tryz.func96.trans (congrArg some (by kernel_rfl))
  f46 := ⟨Tryz.f124.name, by decide, Tryz.func124.trans (congrArg some (by kernel_rfl))⟩
  f47 := Tryz.func125.trans (congrArg some (by kernel_rfl))
  f48 := Tryz.func126.trans (congrArg some (by kernel_rfl))
  f49 := ⟨Tryz.f127.name, by decide, Tryz.func127.trans (congrArg some (by kernel_rfl))⟩
  f50 := ⟨Tryz.f128.name, by decide, Tryz.func128.trans (congrArg some (by kernel_rfl))⟩
  f57 := ⟨Tryz.f141.name, by decide, Tryz.func141.trans (congrArg some (by kernel_rfl))⟩
  t0 := Tryz.underlying0
  a0 := Tryz.isAgg0
  z0 := Tryz.sizeOf0
  v0 := Tryz.zeroValue0
  t3 := Tryz.underlying3
  a3 := Tryz.isAgg3
  z3 := Tryz.sizeOf3
  v3 := Tryz.zeroValue3
  t4 := Tryz.underlying4
  a4 := Tryz.isAgg4
  z4 := Tryz.sizeOf4
  v4 := Tryz.zeroValue4
  t5 := Tryz.underlying5
  a5 := Tryz.isAgg5
  z5 := Tryz.sizeOf5
  v5 := Tryz.zeroValue5
  t9 := Tryz.underlying9
  a9 := Tryz.isAgg9
  z9 := Tryz.sizeOf9
  v9 := Tryz.zeroValue9
  t22 := Tryz.underlying103
  a22 := Tryz.isAgg103
  z22 := Tryz.sizeOf103
  v22 := Tryz.zeroValue103
  t25 := Tryz.underlying109
  a25 := Tryz.isAgg109
  z25 := Tryz.sizeOf109
  v25 := Tryz.zeroValue109
  t39 := Tryz.underlying127
  a39 := Tryz.isAgg127
  z39 := Tryz.sizeOf127
  v39 := Tryz.zeroValue127
  t45 := Tryz.underlying142
  a45 := Tryz.isAgg142
  z45 := Tryz.sizeOf142
  v45 := Tryz.zeroValue142
  t46 := Tryz.underlying143
  a46 := Tryz.isAgg143
  z46 := Tryz.sizeOf143
  v46 := Tryz.zeroValue143
  t50 := Tryz.underlying147
  a50 := Tryz.isAgg147
  z50 := Tryz.sizeOf147
  v50 := Tryz.zeroValue147
  t53 := Tryz.underlying150
  a53 := Tryz.isAgg150
  z53 := Tryz.sizeOf150
  v53 := Tryz.zeroValue150
  t55 := Tryz.underlying113
  a55 := Tryz.isAgg113
  z55 := Tryz.sizeOf113
  v55 := Tryz.zeroValue113
  t66 := Tryz.underlying163
  a66 := Tryz.isAgg163
  z66 := Tryz.sizeOf163
  v66 := Tryz.zeroValue163
  t70 := Tryz.underlying167
  a70 := Tryz.isAgg167
  z70 := Tryz.sizeOf167
  v70 := Tryz.zeroValue167
  t76 := Tryz.underlying183
  a76 := Tryz.isAgg183
  z76 := Tryz.sizeOf183
  v76 := Tryz.zeroValue183
  t77 := Tryz.underlying184
  a77 := Tryz.isAgg184
  z77 := Tryz.sizeOf184
  v77 := Tryz.zeroValue184 }
end Go.Proofs
namespace Go.Sx
open Go Go.RowKit Go.Proofs Go.Sort Go.Lib
structure TE where
  e : Ev
  tm : Tm e.at_.at_
theorem nS : Tm (default : GR) := ⟨0, false, by decide, by unfold ae cj bS an; rfl⟩
instance : Inhabited TE := ⟨⟨default, nS⟩⟩
def cfT (x y : TE) : Int := bE x.1 y.1
theorem nI (x y : TE) : ltOf cfT x y = decide (kB x.1.at_ < kB y.1.at_) := by
  unfold ltOf cfT bE
  rw [cmpB x.2 y.2]
  exact decide_eq_decide.2 oZ
theorem pQ : SWO (ltOf cfT) where
  irrefl x := by rw [nI]; exact decide_eq_false (Nat.lt_irrefl _)
  trans x y z h1 h2 := by
    rw [nI, decide_eq_true_eq] at *
    omega
  ntrans x y z h1 h2 := by
    rw [nI, decide_eq_false_iff_not] at *
    omega
def l3 (d : Array TE) : Array TE := pdq (ltOf cfT) d 0 d.size (Lib.bitLen d.size) true true
theorem oO (d : Array TE) : (l3 d).size = d.size ∧ (l3 d).toList.Perm d.toList ∧ (l3 d).toList.Pairwise fun a b => kB a.1.at_ ≤ kB b.1.at_ := by
  have h := pdq_sorts (ltOf cfT) pQ d 0 d.size (Lib.bitLen d.size) true true (Nat.zero_le _) (Nat.le_refl _) (Or.inl rfl)
  obtain ⟨⟨h1, _, h3⟩, h4⟩ := h
  have h1 : (l3 d).size = d.size := h1
  refine ⟨h1, ?_, ?_⟩
  · have h3 : ((l3 d).extract 0 d.size).toList.Perm (d.extract 0 d.size).toList := h3
    rw [← h1] at h3
    rw [h1] at h3
    have e1 : (l3 d).extract 0 d.size = l3 d := by rw [← h1]; simp
    have e2 : d.extract 0 d.size = d := by simp
    rwa [e1, e2] at h3
  · rw [List.pairwise_iff_getElem]
    intro i j hi hj hij
    have hi' : i < (l3 d).size := by simpa using hi
    have hj' : j < (l3 d).size := by simpa using hj
    have h5 := h4 i j (Nat.zero_le _) hij (by rw [← h1]; exact hj')
    have h5 : ltOf cfT (l3 d)[j]! (l3 d)[i]! = false := h5
    rw [getElem!_pos (l3 d) i hi', getElem!_pos (l3 d) j hj', nI, decide_eq_false_iff_not] at h5
    show kB ((l3 d).toList[i]).1.at_ ≤ kB ((l3 d).toList[j]).1.at_
    simp only [Array.getElem_toList]
    omega
def tmB (x : GR) : Bool := (kC 0 45).any fun y => decide (x = y)
theorem oK {x : GR} : tmB x = true ↔ Tm x := by
  unfold tmB
  rw [List.any_eq_true]
  constructor
  · rintro ⟨y, hy, e⟩
    rw [of_decide_eq_true e]
    unfold kC at hy
    obtain ⟨n, hn, hy⟩ := List.mem_flatMap.1 hy
    have hn := List.mem_range.1 hn
    rcases List.mem_cons.1 hy with rfl | hy
    · exact ⟨0 + n, false, by omega, rfl⟩
    · rw [List.mem_singleton.1 hy]; exact ⟨0 + n, true, by omega, rfl⟩
  · rintro ⟨n, r, hn, rfl⟩
    exact ⟨_, iS r (Nat.zero_le n) (by omega), decide_eq_true rfl⟩
def tmL (l : List Ev) : Bool := l.all fun e => tmB e.at_.at_
theorem fA {l : List Ev} : tmL l = true ↔ ∀ e ∈ l, Tm e.at_.at_ := by
  unfold tmL
  rw [List.all_eq_true]
  exact ⟨fun h e he => oK.1 (h e he), fun h e he => oK.2 (h e he)⟩
def evT (l : List Ev) (h : tmL l = true) : Array TE := (l.attach.map fun e => (⟨e.1, fA.1 h e.1 e.2⟩ : TE)).toArray
theorem pD (l : List Ev) (h : tmL l = true) : (evT l h).toList.map (fun x => x.1) = l := by
  show ((l.attach.map fun e => (⟨e.1, fA.1 h e.1 e.2⟩ : TE)).map fun x => x.1) = l
  rw [List.map_map]
  exact List.attach_map_subtype_val l
theorem evT_size (l : List Ev) (h : tmL l = true) : (evT l h).size = l.length := by unfold evT; simp
def ab (l : List Ev) : List Ev :=
  if h : tmL l = true then (if l.length ≤ 12 then bK l else (l3 (evT l h)).toList.map fun x => x.1) else l
theorem small_is (l : List Ev) : bK l = isort bE l 0 l.length := by
  unfold bK bJ
  show bk l 0 l.length = _
  unfold bk
  rfl
theorem lg {x : Ev} (hx : Tm x.at_.at_) : ∀ {r : List Ev}, (∀ e ∈ r, Tm e.at_.at_) → (r.Pairwise fun a b => kB b.at_ ≤ kB a.at_) → (gf bE x r).Pairwise fun a b => kB b.at_ ≤ kB a.at_
  | [], _, _ => List.pairwise_singleton _ _
  | y :: q, h, hp => by
    have hy := h y (List.mem_cons_self ..)
    have hp2 := List.pairwise_cons.1 hp
    have hc : bE x y < 0 ↔ kB x.at_ < kB y.at_ := by
      unfold bE
      rw [cmpB hx hy, oZ]
    unfold gf
    by_cases hl : bE x y < 0
    · rw [if_pos hl, List.pairwise_cons]
      refine ⟨fun z hz => ?_, lg hx (fun e he => h e (List.mem_cons_of_mem _ he)) hp2.2⟩
      rcases List.mem_cons.1 ((ik (c := bE) x q).mem_iff.1 hz) with rfl | hz
      · have := hc.1 hl; omega
      · exact hp2.1 z hz
    · rw [if_neg hl, List.pairwise_cons]
      have hxy : kB y.at_ ≤ kB x.at_ := Nat.le_of_not_lt fun h2 => hl (hc.2 h2)
      refine ⟨fun z hz => ?_, hp⟩
      rcases List.mem_cons.1 hz with rfl | hz
      · exact hxy
      · exact Nat.le_trans (hp2.1 z hz) hxy
theorem mm : ∀ {s r : List Ev}, (∀ e ∈ s, Tm e.at_.at_) → (∀ e ∈ r, Tm e.at_.at_) → (r.Pairwise fun a b => kB b.at_ ≤ kB a.at_) → (mn bE r s).Pairwise fun a b => kB b.at_ ≤ kB a.at_
  | [], _, _, _, hp => hp
  | x :: s, r, h1, h2, hp => by
    have hx := h1 x (List.mem_cons_self ..)
    show (mn bE (gf bE x r) s).Pairwise _
    exact mm (fun e he => h1 e (List.mem_cons_of_mem _ he)) (fun e he => by
      rcases List.mem_cons.1 ((ik (c := bE) x r).mem_iff.1 he) with rfl | he
      · exact hx
      · exact h2 e he) (lg hx h2 hp)
theorem lr {l : List Ev} (h : ∀ e ∈ l, Tm e.at_.at_) : (ab l).Perm l ∧ (ab l).Pairwise fun a b => kB a.at_ ≤ kB b.at_ := by
  unfold ab
  rw [dif_pos (fA.2 h)]
  by_cases hl : l.length ≤ 12
  · rw [if_pos hl, small_is]
    refine ⟨oi l, ?_⟩
    rw [nz, List.pairwise_reverse]
    exact mm h (fun _ h => by cases h) List.Pairwise.nil
  · rw [if_neg hl]
    obtain ⟨_, h2, h3⟩ := oO (evT l (fA.2 h))
    refine ⟨?_, by rw [List.pairwise_map]; exact h3⟩
    have := h2.map (fun x : TE => x.1)
    rwa [pD] at this
theorem ff (l : List Ev) : (ab l).Perm l := by
  by_cases h : ∀ e ∈ l, Tm e.at_.at_
  · exact (lr h).1
  · unfold ab; rw [dif_neg (fun h2 => h (fA.1 h2))]
theorem et (x : List Ev) (xv : Value) (hl : x.length ≤ 1000) (hT : ∀ e ∈ x, Tm e.at_.at_) (zx : All (SzE 30) x) (w0 w : World) (B : Asn) (hbel : Below w0.heap.size w0 w) (hsep : ∃ Z_, Sep w0.heap.size w [.row (α := Ev) 107 xv x, B] Z_)  : Calls Tryz.prog 72 #[xv, (.func (.func 73) #[] #[])] w (RetY w0 (fun v => v = .tuple #[] ∧ (All (SzE 30) (ab x) ∧ (ab x).length = x.length)) (fun v => [.row (α := Ev) 107 xv (ab x), B])) := by
  have hprop : All (SzE 30) (ab x) ∧ (ab x).length = x.length := ⟨fun e he => zx e ((ff x).mem_iff.1 he), (ff x).length_eq⟩
  by_cases h12 : x.length ≤ 12
  · have e : ab x = bK x := by unfold ab; rw [dif_pos (fA.2 hT), if_pos h12]
    rw [e]
    exact fT x xv h12 zx w0 w B hbel hsep
  · have e : ab x = (l3 (evT x (fA.2 hT))).toList.map (fun x => x.1) := by unfold ab; rw [dif_pos (fA.2 hT), if_neg h12]
    have hsz := evT_size x (fA.2 hT)
    have hsep2 : ∃ Z_, Sep w0.heap.size w [.row (α := Ev) 107 xv ((evT x (fA.2 hT)).toList.map (fun x => x.1)), B] Z_ := by rw [pD]; exact hsep
    have hk := sort_own (P := Tryz.prog) (val := fun x : TE => x.1) (F := 72) (more := [(.func (.func 73) #[] #[])]) (D' := l3 (evT x (fA.2 hT))) (by omega) (oO _).1 hprop hbel hsep2 fun blk cap hv hH hhi hlo => by
      have eg : ∀ args w, (callFunc 73 args).run Tryz.prog w = .ok (.enter 73 args) w := Tryz.call73
      have hc := lays_of (P := Tryz.prog) (val := fun x : TE => x.1) (g := 73) (cf := cfT) (blk := blk) (size := (evT x (fA.2 hT)).size) (w := w) (p := fun x y => (-1 ≤ (bE x.1 y.1) ∧ (bE x.1 y.1) ≤ 1)) (fun a b w => fI a.1 b.1 (da (tm_sz a.2) (by decide)) (da (tm_sz b.2) (by decide)) w)
      have := AnyQ.slices_SortFunc_eq (P := Tryz.prog) Tryz.laysSort 12 Tryz.isAgg107 Tryz.sizeOf107 (fun x : TE => Cod.enc x.1) (fun x => Cod.len x.1) (fun x => Cod.one x.1) cfT pQ 73 #[] blk 0 cap (evT x (fA.2 hT)) w eg hc hH hhi (by omega)
      rw [hv]
      exact this
    rw [← e] at hk
    exact hk
def EvB (e : Ev) : Prop := (-1 ≤ e.b0 ∧ e.b0 ≤ 1) ∧ (-1 ≤ e.b1 ∧ e.b1 ≤ 1)
theorem mY : ∀ e ∈ ([] : List Ev), EvB e := fun _ h => by cases h
theorem jR {l : List Ev} (h : ∀ e ∈ l, EvB e) {x y : Bd} {a b c d : Int} (h1 : (-1 ≤ a ∧ a ≤ 1) ∧ (-1 ≤ b ∧ b ≤ 1)) (h2 : (-1 ≤ c ∧ c ≤ 1) ∧ (-1 ≤ d ∧ d ≤ 1)) : ∀ e ∈ l ++ [⟨x, a, b⟩, ⟨y, c, d⟩], EvB e := fun e he => by
  rcases List.mem_append.1 he with he | he
  · exact h e he
  · rcases List.mem_cons.1 he with rfl | he
    · exact h1
    · rw [List.mem_singleton.1 he]; exact h2
theorem pC {l : List Ev} (h : ∀ e ∈ l, EvB e) (i : Nat) : EvB (gt (ab l) i) := by
  have hp := ff l
  by_cases hi : i < (ab l).length
  · have : gt (ab l) i ∈ ab l := by
      unfold gt
      rw [List.getD_eq_getElem?_getD, List.getElem?_eq_getElem hi]
      exact List.getElem_mem _
    exact h _ (hp.mem_iff.1 this)
  · have : gt (ab l) i = default := by unfold gt; rw [List.getD_eq_getElem?_getD, List.getElem?_eq_none (by omega)]; rfl
    rw [this]; exact ⟨⟨by decide, by decide⟩, ⟨by decide, by decide⟩⟩
theorem iH {β : Type} [Inhabited β] {A : List β} {i : Nat} (h : i < A.length) : A.take (i + 1) = A.take i ++ [gt A i] := by
  rw [ot h, List.take_append_getElem]
theorem lO {l : List Ev} {a : List Iv} {x : Nat} (h : l = evA (a.take x)) (hx : x < a.length) : l ++ [⟨am (gt a x), 1, 0⟩, ⟨ao (gt a x), -1, 0⟩] = evA (a.take (x + 1)) := by
  rw [h, iH hx]; simp [evA]
theorem lN {l : List Ev} {a b : List Iv} {x : Nat} (h : l = evA a ++ evB (b.take x)) (hx : x < b.length) : l ++ [⟨am (gt b x), 0, 1⟩, ⟨ao (gt b x), 0, -1⟩] = evA a ++ evB (b.take (x + 1)) := by
  rw [h, iH hx]; simp [evB]
end Go.Sx
