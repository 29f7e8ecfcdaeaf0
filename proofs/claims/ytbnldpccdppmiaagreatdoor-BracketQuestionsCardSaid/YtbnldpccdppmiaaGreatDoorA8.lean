/- A part of the proof that the law BracketQuestions/Checks answers true at every input and leaves its arguments as they were. -/
import Derived.Shelf.SlSortCmp.WholeK
import Derived.Test.YtbnldpccdppmiaaGreatDoorA7
set_option linter.unusedVariables false
set_option linter.unusedSimpArgs false
namespace Go.Sx
open Go Go.RowKit Go.Proofs Go.Sort Go.Lib
section
variable {P : Program} {α β : Type} [Inhabited α] [Cod β]
theorem lh (val : α → β) (d : Array α) : (flatK (fun x => Cod.enc (val x)) (Cod.n β) d).toList = flat (d.toList.map val) := by
  apply List.ext_getElem?
  intro t
  by_cases ht : t < d.size * Cod.n β
  · have hn : 0 < Cod.n β := Cod.pos
    have hi : t / Cod.n β < d.size := Nat.div_lt_of_lt_mul (by rw [Nat.mul_comm]; exact ht)
    have hm : t % Cod.n β < Cod.n β := Nat.mod_lt _ hn
    have e1 : (d.toList.map val)[t / Cod.n β]? = some (val d[t / Cod.n β]!) := by
      rw [List.getElem?_map, Array.getElem?_toList, Array.getElem?_eq_getElem hi, Option.map_some, getElem!_pos d _ hi]
    have e2 := lL e1 hm
    rw [show t / Cod.n β * Cod.n β + t % Cod.n β = t by rw [Nat.mul_comm]; exact Nat.div_add_mod t _] at e2
    have hs : t < (flatK (fun x => Cod.enc (val x)) (Cod.n β) d).size := by rw [size_flatK]; exact ht
    have hl : t % Cod.n β < (Cod.enc (val d[t / Cod.n β]!)).length := by rw [Cod.len]; exact hm
    rw [e2, Array.getElem?_toList, Array.getElem?_eq_getElem hs, ← getElem!_pos _ t hs, get_flatK _ _ _ _ ht, List.getElem?_eq_getElem hl]
    exact congrArg some (getElem!_pos (Cod.enc (val d[t / Cod.n β]!)) (t % Cod.n β) hl)
  · rw [List.getElem?_eq_none (by rw [Array.length_toList, size_flatK]; omega), List.getElem?_eq_none (by rw [bM, List.length_map, Array.length_toList]; omega)]
theorem oP (enc : α → List Value) (k : Nat) (w : World) (blk n : Nat) (d : Array α) (os : Array Obj) :
    (∀ j, j < w.heap.size → j ≠ blk → (sortWorldK enc k w blk 0 n d os).heap[j]? = w.heap[j]?) ∧
    (∀ cur e fr, w.heap[blk]? = some (.cells cur e fr) → (sortWorldK enc k w blk 0 n d os).heap[blk]? = some (.cells (putCells id 0 (flatK enc k d) cur) e fr)) ∧
    w.heap.size ≤ (sortWorldK enc k w blk 0 n d os).heap.size := by
  have hh : (sortWorldK enc k w blk 0 n d os).heap = (w.heap.modify blk (onCells (putCells id 0 (flatK enc k d)))) ++ os := rfl
  have hz : (w.heap.modify blk (onCells (putCells id 0 (flatK enc k d)))).size = w.heap.size := by simp
  refine ⟨fun j hj hne => ?_, fun cur e fr hc => ?_, ?_⟩
  · rw [hh, Array.getElem?_append_left (by rw [hz]; exact hj), Array.getElem?_modify, if_neg (fun e => hne e.symm)]
  · have hlt : blk < w.heap.size := (Array.getElem?_eq_some_iff.1 hc).1
    rw [hh, Array.getElem?_append_left (by rw [hz]; exact hlt), Array.getElem?_modify, if_pos rfl, hc]; rfl
  · rw [hh, Array.size_append, hz]; omega
theorem put_take (F cur : Array Value) (h : F.size ≤ cur.size) : (putCells id 0 F cur).toList.take F.size = F.toList := by
  apply List.ext_getElem?
  intro t
  by_cases ht : t < F.size
  · rw [List.getElem?_take_of_lt ht, Array.getElem?_toList, Array.getElem?_toList]
    unfold putCells
    rw [Array.getElem?_mapIdx, Array.getElem?_eq_getElem (by omega : t < cur.size), Option.map_some, if_pos ⟨Nat.zero_le _, by omega⟩, Array.getElem?_eq_getElem ht, Nat.sub_zero]
    show some F[t]! = _
    rw [getElem!_pos F t ht]
  · rw [List.getElem?_eq_none (by rw [List.length_take]; omega), List.getElem?_eq_none (by rw [Array.length_toList]; omega)]
theorem sort_own {val : α → β} {e : TypeId} {sv : Value} {d D' : Array α} {F : FuncId} {more : List Value} {w0 w : World} {B : Asn} {p : Prop} (hd0 : 0 < d.size) (hD : D'.size = d.size) (hp : p)
    (hbel : Below w0.heap.size w0 w) (hsep : ∃ U, Sep w0.heap.size w [Asn.row (α := β) e sv (d.toList.map val), B] U)
    (hC : ∀ blk cap, sv = .slice (some ⟨blk, 0, none⟩) d.size cap → HoldsK (fun x => Cod.enc (val x)) (Cod.n β) w blk 0 d → blk < w.heap.size → w0.heap.size ≤ blk →
      Calls P F (sv :: more).toArray w fun r w' => r = .returned (.tuple #[]) ∧ ∃ n os, w' = sortWorldK (fun x => Cod.enc (val x)) (Cod.n β) w blk 0 n D' os) :
    Calls P F (sv :: more).toArray w (RetY w0 (fun v => v = .tuple #[] ∧ p) (fun _ => [Asn.row (α := β) e sv (D'.toList.map val), B])) := by
  obtain ⟨U, f, V, hU, hdis, hlt, ⟨hown, hf⟩, hB⟩ := hsep
  have hl1 : (d.toList.map val).length = d.size := by rw [List.length_map, Array.length_toList]
  have hl2 : (D'.toList.map val).length = d.size := by rw [List.length_map, Array.length_toList, hD]
  rcases hown.2 with ⟨_, h0⟩ | ⟨blk, cap, cur, hv, _, hg, hcap, hmx, hcs, htk⟩
  · omega
  rw [hl1] at hv hcap htk
  have hfb : f blk := (hf blk).2 (by rw [hv]; rfl)
  obtain ⟨hlo, hhi⟩ := hlt blk hfb
  have hcur : d.size * Cod.n β ≤ cur.size := by rw [hcs]; exact Nat.mul_le_mul_right _ hcap
  have hH : HoldsK (fun x => Cod.enc (val x)) (Cod.n β) w blk 0 d := by
    intro j hj
    have hj' : j < d.size * Cod.n β := by rw [← size_flatK (fun x => Cod.enc (val x)) (Cod.n β) d]; exact hj
    refine ⟨?_, ?_⟩
    · have h1 : cur[j]? = some (flatK (fun x => Cod.enc (val x)) (Cod.n β) d)[j]! := by
        have h2 : (cur.toList.take (d.size * Cod.n β))[j]? = (flat (d.toList.map val))[j]? := by rw [htk]
        rw [List.getElem?_take_of_lt hj', Array.getElem?_toList, ← lh, Array.getElem?_toList, Array.getElem?_eq_getElem hj] at h2
        rw [h2, getElem!_pos _ j hj]
      unfold World.cell?
      rw [hg, Nat.zero_add]
      exact h1
    · unfold World.frozen?
      rw [hg]
      simp
  refine (hC blk cap hv hH hhi hlo).mono fun r w' ⟨hr, n, os, hw⟩ => ?_
  subst hw
  obtain ⟨g1, g2, g3⟩ := oP (fun x => Cod.enc (val x)) (Cod.n β) w blk n D' os
  refine ⟨.tuple #[], hr, ⟨rfl, hp⟩, ⟨hbel.os, hbel.tape, hbel.output, Nat.le_trans hbel.size g3, fun k hk => ?_, Nat.le_trans hbel.drawn (Nat.le_add_right _ _)⟩, U, f, V, hU, hdis, fun k hk => ⟨(hlt k hk).1, Nat.lt_of_lt_of_le (hlt k hk).2 g3⟩, ⟨⟨bM _, .inr ⟨blk, cap, _, ?_, Nat.zero_le _, g2 cur e (0, 0) hg, ?_, hmx, ?_, ?_⟩⟩, hf⟩, hB.keep g3 fun k hk => ?_⟩
  · rw [g1 k (Nat.lt_of_lt_of_le hk hbel.size) (by omega)]
    exact hbel.block k hk
  · rw [hl2]; exact hv
  · rw [hl2]; exact hcap
  · unfold putCells; rw [Array.size_mapIdx]; exact hcs
  · have hF : (flatK (fun x => Cod.enc (val x)) (Cod.n β) D').size = d.size * Cod.n β := by rw [size_flatK, hD]
    rw [hl2, ← hF, put_take _ _ (by rw [hF]; exact hcur), lh]
  · exact g1 k ((hB.range k hk).2) fun ek => hdis blk hfb (ek ▸ hk)
theorem lays_of {val : α → β} {g : Nat} {cf : α → α → Int} {blk size : Nat} {w : World} {p : α → α → Prop}
    (ct : ∀ x y w, Calls P g #[.agg (Cod.enc (val x)).toArray, .agg (Cod.enc (val y)).toArray] w (RetP w (.int .i64 (cf x y)) (p x y))) : CmpLays P g #[] (fun x => Cod.enc (val x)) (Cod.n β) cf blk 0 size w := by
  intro m os dk _ x y
  refine (ct x y (sortWorldK (fun x => Cod.enc (val x)) (Cod.n β) w blk 0 m dk os)).mono fun r w' ⟨hr, _, hb⟩ => ⟨hr, ?_⟩
  generalize sortWorldK (fun x => Cod.enc (val x)) (Cod.n β) w blk 0 m dk os = W at *
  refine ⟨w'.drawn - W.drawn, w'.heap.extract W.heap.size w'.heap.size, ?_⟩
  have hheap : w'.heap = W.heap ++ w'.heap.extract W.heap.size w'.heap.size := by
    apply Array.ext_getElem?
    intro k
    by_cases hk : k < W.heap.size
    · rw [Array.getElem?_append_left hk, hb.block k hk]
    · rw [Array.getElem?_append_right (by omega), Array.getElem?_extract]
      by_cases hk2 : k < w'.heap.size
      · rw [if_pos (by have := hb.size; omega), show W.heap.size + (k - W.heap.size) = k by omega]
      · rw [if_neg (by omega), Array.getElem?_eq_none (by omega)]
  have hd : w'.drawn = W.drawn + (w'.drawn - W.drawn) := by have := hb.drawn; omega
  have hR : grow (W.drewN (w'.drawn - W.drawn)) (w'.heap.extract W.heap.size w'.heap.size) = (⟨W.heap ++ w'.heap.extract W.heap.size w'.heap.size, W.tape, W.drawn + (w'.drawn - W.drawn), W.os, W.output⟩ : World) := rfl
  rw [hR, ← hheap, ← hd, ← hb.os, ← hb.tape, ← hb.output]
end
end Go.Sx
namespace Go.Sx
open Go Go.RowKit
def kw : List Nat → Bool
  | [] => true
  | x :: l => (l.all fun y => !(Nat.beq x y)) && kw l
theorem nq {e : Nat} {acc : List Nat} (h : kw (e :: acc) = true) : e ∉ acc ∧ kw acc = true := by
  simp only [kw, Bool.and_eq_true, List.all_eq_true, Bool.not_eq_true'] at h
  exact ⟨fun hm => by have := h.1 e hm; simp at this, h.2⟩
def mU (acc : List Nat) (L : List Asn) : List Asn := acc.foldl (fun L e => L.set e .emp) L
theorem kD : ∀ (acc : List Nat) (L : List Asn) (j : Nat), (mU acc L)[j]? = if j ∈ acc ∧ j < L.length then some .emp else L[j]?
  | [], L, j => by simp [mU]
  | e :: acc, L, j => by
    show (mU acc (L.set e .emp))[j]? = _
    rw [kD acc]
    by_cases hj : j < L.length
    · by_cases h1 : j ∈ acc
      · simp [h1, hj]
      · by_cases h2 : e = j
        · subst h2; simp [h1, hj]
        · simp [h1, h2, Ne.symm h2, hj]
    · simp [hj]
theorem sep_addE {lo : Nat} {w : World} {L : List Asn} {U : Fp} (h : Sep lo w L U) : Sep lo w (.emp :: L) U :=
  ⟨fun _ => False, U, fun k => by simp, fun _ h => h.elim, fun _ h => h.elim, fun _ => id, h⟩
theorem o3 {lo : Nat} {w : World} {L : List Asn} {U : Fp} (h : Sep lo w (.emp :: L) U) : Sep lo w L U := by
  obtain ⟨f, V, hU, _, _, hr, hs⟩ := h
  exact hs.congr fun k => by
    rw [hU k]
    exact ⟨.inr, fun h => h.resolve_left (hr k)⟩
theorem nk {acc : List Nat} {e : Nat} {r : Asn} {L : List Asn} (h : e ∉ acc) : (acc.filterMap fun j => (L.set e r)[j]?) = acc.filterMap fun j => L[j]? :=
  Sx.List.filterMap_congr_mem fun j hj => by
    show (L.set e r)[j]? = L[j]?
    exact List.getElem?_set_ne (fun h2 : e = j => h (by rw [h2]; exact hj))
theorem o2 {lo : Nat} {w : World} : ∀ {acc : List Nat} {L : List Asn} {U : Fp}, kw acc = true → (∀ i ∈ acc, i < L.length) → Sep lo w L U → Sep lo w ((acc.filterMap fun e => L[e]?) ++ mU acc L) U
  | [], _, _, _, _, h => h
  | e :: acc, L, U, hn, hl, h => by
    obtain ⟨hne, hn2⟩ := nq hn
    have he : e < L.length := hl e (by simp)
    have e1 : L[e]? = some (L[e]'he) := List.getElem?_eq_getElem _
    obtain ⟨B, h1, h2⟩ := dX Asn.emp e1
    obtain ⟨f, V, hU, hd, hlt, hr, hs⟩ := Sep.perm h1 h
    have h3 := o2 (acc := acc) hn2 (fun i hi => by simpa using hl i (by simp [hi])) (Sep.perm h2 (sep_addE hs))
    rw [nk hne] at h3
    rw [List.filterMap_cons, e1]
    exact ⟨f, V, hU, hd, hlt, hr, h3⟩
theorem sep_in {lo : Nat} {w : World} : ∀ {acc : List Nat} {L : List Asn} {U : Fp}, kw acc = true → (∀ i ∈ acc, i < L.length) → Sep lo w ((acc.filterMap fun e => L[e]?) ++ mU acc L) U → Sep lo w L U
  | [], _, _, _, _, h => h
  | e :: acc, L, U, hn, hl, h => by
    obtain ⟨hne, hn2⟩ := nq hn
    have he : e < L.length := hl e (by simp)
    have e1 : L[e]? = some (L[e]'he) := List.getElem?_eq_getElem _
    obtain ⟨B, h1, h2⟩ := dX Asn.emp e1
    rw [List.filterMap_cons, e1] at h
    obtain ⟨f, V, hU, hd, hlt, hr, hs⟩ := h
    have h3 := sep_in (acc := acc) (L := L.set e .emp) hn2 (fun i hi => by simpa using hl i (by simp [hi])) (by rw [nk hne]; exact hs)
    exact Sep.perm h1.symm ⟨f, V, hU, hd, hlt, hr, o3 (Sep.perm h2.symm h3)⟩
theorem touch2 {lo : Nat} {w : World} {L : List Asn} {acc : List Nat} (hacc : kw acc = true) (hl : ∀ i ∈ acc, i < L.length) {U : Fp} (h : Sep lo w L U) :
    ∃ V W : Fp, Sep lo w (acc.filterMap fun e => L[e]?) V ∧ (∀ k, V k → lo ≤ k ∧ k < w.heap.size) ∧ (∀ k, W k → lo ≤ k ∧ k < w.heap.size) ∧ (∀ k, V k → ¬ W k) ∧
      ∀ (w' : World) (L' : List Asn) (V' : Fp), L'.length = L.length → (∀ j, j ∉ acc → L'[j]? = L[j]?) → (∀ k, W k → w'.heap[k]? = w.heap[k]?) → (∀ k, V' k → ¬ W k) →
        Sep lo w' (acc.filterMap fun e => L'[e]?) V' → ∃ U', Sep lo w' L' U' := by
  obtain ⟨V, W, hA, hB, hVW, _⟩ := (o2 hacc hl h).split
  refine ⟨V, W, hA, hA.range, hB.range, hVW, fun w' L' V' hlen hL' hk hd hs => ?_⟩
  have e1 : mU acc L' = mU acc L := List.ext_getElem? fun j => by
    rw [kD, kD, hlen]
    by_cases hj : j ∈ acc
    · by_cases h2 : j < L.length
      · simp [hj, h2]
      · rw [if_neg (fun h => h2 h.2), if_neg (fun h => h2 h.2), List.getElem?_eq_none (by omega), List.getElem?_eq_none (by omega)]
    · rw [if_neg (fun h => hj h.1), if_neg (fun h => hj h.1), hL' j hj]
  refine ⟨fun k => V' k ∨ W k, sep_in (acc := acc) hacc (fun i hi => by rw [hlen]; exact hl i hi) ?_⟩
  rw [e1]
  exact hs.append (hB.moved hk) hd
section
variable {P : Program} {w0 : World} {N : Nat} {F : List (Nat × Value)} {ops : List Oper} {D : List DOp} {H : List Hist} {Q : Exit → Act → World → Prop}
def ObS2 (P : Program) (w0 : World) (ops : List Oper) (H : List Hist) (F : (Nat → Value) → List (Nat × Value)) (ξ : Nat → Value) (i : Nat) (o : Oper) (d : DOp) : Prop :=
  ObS P w0 ops H F ξ i o d ∨ ∃ j want, o.guard = some (j, want) ∧ look (F ξ) (((ops[j]?).bind (·.dst)).getD 0) = some (.bool want) ∧ ((ops[j]?).bind (·.dst)).isSome = true ∧
    ObS P w0 ops H F ξ i { o with guard := none } d
def Obl2 (P : Program) (w0 : World) (ops : List Oper) (D : List DOp) (H : List Hist) : List Oper → List DOp → Nat → ((Nat → Value) → List (Nat × Value)) → Prop
  | o :: os, d :: ds, i, F => (∀ ξ, (∀ j, ((clo ops []).getD i 0).testBit j = true → fY D ξ j) → ObS2 P w0 ops H F ξ i o d) ∧
      Obl2 P w0 ops D H os ds (i + 1) (fun ξ => match o.dst with | some t => (t, d.ov.val ξ i) :: F ξ | none => F ξ)
  | _, _, _, _ => True
theorem np : ∀ (os : List Oper) (ds : List DOp) (k : Nat) (F' : (Nat → Value) → List (Nat × Value)), os = ops.drop k → ds = D.drop k → Obl2 P w0 ops D H os ds k F' →
    (∀ ξ t, look (F' ξ) t = gj (dd ops D) F (fun j => Nat.blt j k) ξ t) →
    ∀ i o d, k ≤ i → ops[i]? = some o → D[i]? = some d → ∃ Fi : (Nat → Value) → List (Nat × Value), (∀ ξ t, look (Fi ξ) t = gj (dd ops D) F (fun j => Nat.blt j i) ξ t) ∧ ∀ ξ, (∀ j, ((clo ops []).getD i 0).testBit j = true → fY D ξ j) → ObS2 P w0 ops H Fi ξ i o d
  | [], ds, k, F', hos, hds, _, _, i, o, d, hk, ho, hd => by
    have : (ops.drop k)[i - k]? = some o := by rw [List.getElem?_drop, show k + (i - k) = i by omega]; exact ho
    rw [← hos] at this
    simp at this
  | o' :: os, [], k, F', hos, hds, _, _, i, o, d, hk, ho, hd => by
    have : (D.drop k)[i - k]? = some d := by rw [List.getElem?_drop, show k + (i - k) = i by omega]; exact hd
    rw [← hds] at this
    simp at this
  | o' :: os, d' :: ds, k, F', hos, hds, hob, hF, i, o, d, hk, ho, hd => by
    have ho' : ops[k]? = some o' := by
      have : (ops.drop k)[0]? = some o' := by rw [← hos]; rfl
      simpa [List.getElem?_drop] using this
    have hd' : D[k]? = some d' := by
      have : (D.drop k)[0]? = some d' := by rw [← hds]; rfl
      simpa [List.getElem?_drop] using this
    have hos2 : os = ops.drop (k + 1) := by
      rw [← List.tail_drop, ← hos]; rfl
    have hds2 : ds = D.drop (k + 1) := by
      rw [← List.tail_drop, ← hds]; rfl
    obtain ⟨h1, h2⟩ := hob
    rcases Nat.lt_or_ge k i with hlt | hge
    · refine np os ds (k + 1) _ hos2 hds2 h2 ?_ i o d hlt ho hd
      · intro ξ t
        have hdd := mz ho' hd'
        by_cases hdst : o'.dst = some t
        · rw [hdst] at hdd
          rw [iJ (ov := d'.ov) hdd (by simp [dI]) (fun j hj ov' hov => by simp [dI]; omega)]
          simp [hdst, look]
        · rw [← jF (i := k) (S := fun j => Nat.blt j k) (fun ov e => by rw [hdd] at e; simp at e; exact hdst e.1) (fun j hj => by
            simp only [dI, decide_eq_decide]
            omega), ← hF ξ t]
          cases hod : o'.dst with
          | none => rfl
          | some u =>
            have : Nat.beq u t = false := by
              cases hb : Nat.beq u t with
              | false => rfl
              | true => exact absurd (by rw [hod, Nat.eq_of_beq_eq_true hb]) hdst
            simp [look, this]
    · have : i = k := by omega
      subst this
      rw [ho] at ho'; rw [hd] at hd'
      simp only [Option.some.injEq] at ho' hd'
      subst ho' hd'
      exact ⟨F', hF, h1⟩
theorem Inv.step2 (hc : chk ops D H = true) (haccs : ∀ d ∈ D, kw d.acc = true) (hN : ∀ o ∈ ops, ∀ t, o.dst = some t → t < N) (hob : Obl2 P w0 ops D H ops D 0 (fun _ => F)) {l : Array Bool} {ξ : Nat → Value} {a : Act} {w : World} (hI : Inv w0 N F ops D H l ξ a w)
    {i : Nat} {o : Oper} {d : DOp} (ho : ops[i]? = some o) (hd : D[i]? = some d) (hi : done l i = false) (hpre : ∀ j, Bef ops j i → done l j = true) {K : Act → World → Prop} (k : ∀ ξ' a' w', Inv w0 N F ops D H (l.setIfInBounds i true) ξ' a' w' → K a' w') :
    if Region.wanted o (yielded ops.toArray a.tmps) then o.wp P a w K Q else K (a.put o.dst undef) w := by
  have hC := lT ops [] [] rfl rfl (fun i j h => by simp at h)
  have hck := j1 hc ho hd
  simp only [kV, Bool.and_eq_true, List.all_eq_true, Bool.or_eq_true, Bool.not_eq_true'] at hck
  obtain ⟨⟨⟨⟨⟨_, hacc⟩, hreads⟩, hdst⟩, hdep⟩, hhist⟩ := hck
  have hlt : i < l.size := by
    rw [hI.len]
    exact (List.getElem?_eq_some_iff.1 ho).1
  obtain ⟨Fi, hFi, hOb⟩ := np (F := F) ops D 0 (fun _ => F) rfl rfl hob (fun ξ t => by rw [gm]; intro j; simp [dI]) i o d (Nat.zero_le _) ho hd
  have hOb := hOb ξ fun j hj => by
    have hj' := hI.val j (hpre j (hC i j (by simpa using hj)))
    unfold fY
    split
    · rename_i φ acc hD
      exact hj' _ hD
    · trivial
  have hread : ∀ t ∈ gQ ops o, gj (dd ops D) F (done l) ξ t = look (Fi ξ) t := by
    intro t ht
    rw [hFi]
    refine fc (fun p hp hpt => ?_) fun _ _ _ _ => rfl
    obtain ⟨⟨dt, ov⟩, j⟩ := p
    simp only at hpt
    subst hpt
    have hj := cc.1 hp
    simp only [dd, List.getElem?_map, Option.map_eq_some_iff, Prod.mk.injEq] at hj
    obtain ⟨⟨oj, dj⟩, hz, hdt, _⟩ := hj
    have hoj := (List.getElem?_zip_eq_some.1 hz).1
    have := hreads t ht (oj, j) (cc.2 hoj)
    simp only at hdt
    rcases this with h | h
    · simp [hdt] at h
    · exact side h hi hI.down hpre
  have hregs : ∀ t ∈ gQ ops o, ∀ v, look (Fi ξ) t = some v → a.tmps[t]? = some v := fun t ht v hv => hI.regs t v (by rw [hread t ht]; exact hv)
  have hagr : Agr (iI (Fi ξ) (gp o.op)) a := by
    intro x v hx
    cases x with
    | tmp t =>
      obtain ⟨h1, h2⟩ := iY hx
      simp [Act.eval, hregs t (by simp [gQ, h1]) v h2]
    | const u => simp [ev] at hx; exact hx
    | global g => simp [ev] at hx; exact hx
    | func f => simp [ev] at hx; exact hx
  have hent : ∀ e ∈ d.acc, ∀ h, H[e]? = some h → h.at (done l) ξ = h.at (fun j => Nat.blt j i) ξ := by
    intro e he h hh
    have := hacc e he
    rw [hh] at this
    simp only [List.all_eq_true] at this
    exact Hist.at_congr (fun p hp => side (this p hp) hi hI.down hpre) fun _ _ _ => rfl
  have hal : ∀ e ∈ d.acc, e < H.length := by
    intro e he
    have := hacc e he
    rcases Nat.lt_or_ge e H.length with h | h
    · exact h
    · rw [List.getElem?_eq_none h] at this; simp at this
  have hpicked : (d.acc.filterMap fun e => (H.map fun h => h.at (done l) ξ)[e]?) = d.acc.filterMap fun e => (H[e]?).map fun h => h.at (fun j => Nat.blt j i) ξ := by
    refine Sx.List.filterMap_congr_mem fun e he => ?_
    rw [List.getElem?_map]
    cases hh : H[e]? with
    | none => rfl
    | some h => simp [hent e he h hh]
  have hnd : ∀ ξ', (∀ j, j ≠ i → ξ' j = ξ j) → d.ov.holds ξ' i → (∀ j, done (l.setIfInBounds i true) j = true → mV D ξ' j) := by
    intro ξ' he hv j hj d' hd'
    by_cases e : j = i
    · subst e; rw [hd] at hd'; simp only [Option.some.injEq] at hd'; subst hd'; exact hv
    · have hjl : done l j = true := by
        rw [eK hlt] at hj
        have : Nat.beq j i = false := by
          cases hb : Nat.beq j i with
          | false => rfl
          | true => exact absurd (Nat.eq_of_beq_eq_true hb) e
        simpa [this] using hj
      have := hI.val j hjl d' hd'
      cases hov : d'.ov with
      | det v => simp only [hov, OV.holds] at this ⊢; rw [he j e]; exact this
      | nd φ =>
        simp only [hov, OV.holds] at this ⊢
        rw [φ.ok ξ' ξ]
        · exact this
        · intro k hk
          refine he k fun ek => ?_
          have hjo : ∃ oj, ops[j]? = some oj := ⟨_, List.getElem?_eq_getElem (by
            rw [← hI.len]
            rcases Nat.lt_or_ge j l.size with h | h
            · exact h
            · simp [done, Array.getElem?_eq_none h] at hjl)⟩
          obtain ⟨oj, hoj⟩ := hjo
          have hckj := j1 hc hoj hd'
          simp only [kV, Bool.and_eq_true, List.all_eq_true, Bool.or_eq_true, Bool.not_eq_true'] at hckj
          have hdj := hckj.1.2 k (by rw [hov]; exact hk)
          rcases hdj with h | h
          · exact e ((Nat.eq_of_beq_eq_true h).symm.trans ek)
          · have := hI.down j k (hC j k (by simpa using h)) hjl
            rw [ek, hi] at this; cases this
  have hdown' : ∀ i' j, Bef ops j i' → done (l.setIfInBounds i true) i' = true → done (l.setIfInBounds i true) j = true := by
    intro i' j hb hi'
    rw [eK hlt] at hi' ⊢
    cases hbq : Nat.beq j i with
    | true => rfl
    | false =>
      simp only [cond_false]
      cases hbi : Nat.beq i' i with
      | true =>
        have := Nat.eq_of_beq_eq_true hbi
        subst this
        exact hpre j hb
      | false =>
        rw [hbi] at hi'
        exact hI.down i' j hb (by simpa using hi')
  have hreg' : ∀ (ξ' : Nat → Value) (v : Value), (∀ j, j ≠ i → ξ' j = ξ j) → d.ov.val ξ' i = v → ∀ t u, gj (dd ops D) F (done (l.setIfInBounds i true)) ξ' t = some u → (a.put o.dst v).tmps[t]? = some u := by
    intro ξ' v he hv t u hu
    have hdd := mz ho hd
    have hvals : ∀ p ∈ (dd ops D).zipIdx, p.2 ≠ i → p.1.2.val ξ' p.2 = p.1.2.val ξ p.2 := by
      intro p _ hne
      cases p.1.2 with
      | det v => rfl
      | nd φ => exact he _ hne
    by_cases hdt : o.dst = some t
    · rw [hdt] at hdd
      rw [iJ (ov := d.ov) hdd (by rw [eK hlt]; simp) (fun j hj ov' hov => by
        rw [eK hlt]
        have hne : Nat.beq j i = false := by
          cases hb : Nat.beq j i with
          | false => rfl
          | true => have := Nat.eq_of_beq_eq_true hb; omega
        simp only [hne, cond_false]
        simp only [dd, List.getElem?_map, Option.map_eq_some_iff, Prod.mk.injEq] at hov
        obtain ⟨⟨oj, dj⟩, hz, hdt', _⟩ := hov
        have hoj := (List.getElem?_zip_eq_some.1 hz).1
        rw [hdt] at hdst
        simp only [List.all_eq_true, Bool.or_eq_true, Bool.not_eq_true'] at hdst
        have := hdst (oj, j) (cc.2 hoj)
        rcases this with h | h
        · simp at h; exact absurd hdt' h
        · rw [side h hi hI.down hpre, dI]; simp; omega)] at hu
      simp only [Option.some.injEq] at hu
      have htl : t < a.tmps.size := by rw [hI.size]; exact hN o (List.mem_of_getElem? ho) t hdt
      simp [Act.put, hdt, htl, ← hu, hv]
    · have hold : gj (dd ops D) F (done l) ξ t = some u := by
        rw [← hu]
        refine fc (fun p hp hpt => ?_) fun p hp hpt hdone => (hvals p hp fun e => ?_).symm
        · rw [eK hlt]
          have : Nat.beq p.2 i = false := by
            cases hb : Nat.beq p.2 i with
            | false => rfl
            | true =>
              have e := Nat.eq_of_beq_eq_true hb
              have := cc.1 hp
              rw [e, hdd] at this
              simp only [Option.some.injEq] at this
              rw [← this] at hpt
              exact absurd hpt hdt
          simp [this]
        · rw [e, hi] at hdone; cases hdone
      have := hI.regs t u hold
      cases hod : o.dst with
      | none => exact this
      | some t' =>
        have hne : t' ≠ t := fun e => hdt (by rw [hod, e])
        simp [Act.put, hne, this]
  have hsteps : ∀ (e : Nat) (h : Hist), H[e]? = some h → ∀ p ∈ h.steps, done l p.1 = true → i ∉ p.2.dep := by
    intro e h hh p hp hdone hdepi
    obtain ⟨oj, hoj⟩ : ∃ oj, ops[p.1]? = some oj := ⟨_, List.getElem?_eq_getElem (by
      rw [← hI.len]
      rcases Nat.lt_or_ge p.1 l.size with h | h
      · exact h
      · simp [done, Array.getElem?_eq_none h] at hdone)⟩
    have hlenD : ops.length = D.length := by
      simp only [chk, Bool.and_eq_true] at hc
      exact Nat.eq_of_beq_eq_true hc.1.1
    obtain ⟨dj, hdj⟩ : ∃ dj, D[p.1]? = some dj := ⟨_, List.getElem?_eq_getElem (by rw [← hlenD]; exact (List.getElem?_eq_some_iff.1 hoj).1)⟩
    have hckj := j1 hc hoj hdj
    simp only [kV, Bool.and_eq_true, List.all_eq_true, Bool.or_eq_true, Bool.not_eq_true'] at hckj
    have := hckj.2 (h, e) (cc.2 hh) p hp
    rcases this with h1 | ⟨_, h1⟩
    · simp at h1
    · rcases h1 i hdepi with h2 | h2
      · rw [← Nat.eq_of_beq_eq_true h2, hi] at hdone; cases hdone
      · have := hI.down p.1 i (hC p.1 i (by simpa using h2)) hdone
        rw [hi] at this; cases this
  have hkeep : ∀ (ξ' : Nat → Value), (∀ j, j ≠ i → ξ' j = ξ j) → ∀ (e : Nat) (h : Hist), H[e]? = some h → (∀ p ∈ h.steps, p.1 ≠ i) → h.at (done (l.setIfInBounds i true)) ξ' = h.at (done l) ξ := by
    intro ξ' he e h hh hne
    have hS : ∀ p ∈ h.steps, done (l.setIfInBounds i true) p.1 = done l p.1 := by
      intro p hp
      rw [eK hlt]
      have : Nat.beq p.1 i = false := by
        cases hb : Nat.beq p.1 i with
        | false => rfl
        | true => exact absurd (Nat.eq_of_beq_eq_true hb) (hne p hp)
      simp [this]
    refine Hist.at_congr hS fun p hp hdone => ?_
    rw [hS p hp] at hdone
    exact p.2.ok _ _ fun k hk => he k fun ek => hsteps e h hh p hp hdone (ek ▸ hk)
  have hmiss : ∀ (e : Nat) (h : Hist), H[e]? = some h → e ∉ d.acc → ∀ p ∈ h.steps, p.1 ≠ i := by
    intro e h hh hne p hp ei
    rcases hhist (h, e) (cc.2 hh) p hp with h1 | ⟨h1, _⟩
    · rw [ei] at h1; simp at h1
    · simp at h1; exact hne h1
  have haccd := haccs d (List.mem_of_getElem? hd)
  obtain ⟨U, hU⟩ := hI.sep
  have hun : ObS P w0 ops H Fi ξ i { o with guard := none } d → o.wp P a w K Q := by
    intro hOb
    unfold ObS at hOb
    simp only at hOb
    obtain ⟨V, W, hV, hVr, hWr, hVW, hcl⟩ := touch2 haccd (fun e he => by simpa using hal e he) hU
    rw [hpicked] at hV
    refine hOb o a w V K Q rfl hagr hI.bel hV fun v w' V' hφ hm hs => ?_
    have hval : d.ov.val (upd ξ i v) i = v := by
      cases hov : d.ov with
      | det u => simp only [hov, OV.holds, aS] at hφ; simp [OV.val, hφ]
      | nd φ => simp [OV.val, aS]
    refine k (upd ξ i v) _ _ ⟨by simpa using hI.len, hdown', hnd _ (fun j hj => gV hj) hφ, ?_, ?_, hreg' _ v (fun j hj => gV hj) hval, hm.below hI.bel fun k hk => (hVr k hk).1, ?_⟩
    · cases o.dst <;> simp [Act.put, hI.size]
    · cases o.dst <;> simp [Act.put, hI.defers]
    · refine hcl w' _ V' (by simp) (fun j hj => ?_) (fun k hk => hm.block k (hWr k hk).2 fun hv => hVW k hv hk) (fun k hk hw => (hm.new k hk).elim (fun hv => hVW k hv hw) fun hge => absurd (hWr k hw).2 (by omega)) ?_
      · rw [List.getElem?_map, List.getElem?_map]
        cases hh : H[j]? with
        | none => rfl
        | some h => simp [hkeep _ (fun j hj => gV hj) j h hh (hmiss j h hh hj)]
      · have : (d.acc.filterMap fun e => (H.map fun h => h.at (done (l.setIfInBounds i true)) (upd ξ i v))[e]?) = d.acc.filterMap fun e => (H[e]?).map fun h => h.at (fun j => Nat.blt j (i + 1)) (upd ξ i v) := by
          refine Sx.List.filterMap_congr_mem fun e he => ?_
          rw [List.getElem?_map]
          cases hh : H[e]? with
          | none => rfl
          | some h =>
            simp only [Option.map_some, Option.some.injEq]
            refine Hist.at_congr (fun p hp => ?_) fun _ _ _ => rfl
            have hs' := hacc e he
            rw [hh] at hs'
            simp only [List.all_eq_true] at hs'
            have := side (hs' p hp) hi hI.down hpre
            rw [eK hlt, this]
            simp only [dI]
            by_cases e : p.1 = i
            · subst e; simp
            · have hb : Nat.beq p.1 i = false := by
                cases hb : Nat.beq p.1 i with
                | false => rfl
                | true => exact absurd (Nat.eq_of_beq_eq_true hb) e
              simp only [hb, cond_false, decide_eq_decide]
              omega
        rw [this]
        exact hs
  rcases hOb with hOb | ⟨j, want, hg1, hg2, hg3, hOb⟩
  rotate_left
  · obtain ⟨dj, hdj⟩ := Option.isSome_iff_exists.1 hg3
    rw [hdj] at hg2
    simp only [Option.getD_some] at hg2
    have hr := hregs dj (by simp [gQ, hg1, hdj]) _ hg2
    have hw : Region.wanted o (yielded ops.toArray a.tmps) = true := by
      have hdj' : (ops.toArray[j]?).bind (·.dst) = some dj := by simpa using hdj
      simp only [Region.wanted, hg1, yielded, hdj', Option.bind_some, hr]
      cases want <;> rfl
    rw [hw, if_pos rfl]
    exact hun hOb
  cases hgd : o.guard with
  | none =>
    simp only [Region.wanted, hgd, if_true]
    refine hun ?_
    have : ({ o with guard := none } : Oper) = o := by cases o; simp only at hgd; subst hgd; rfl
    rw [this]; exact hOb
  | some jw =>
    obtain ⟨j, want⟩ := jw
    unfold ObS at hOb
    rw [hgd] at hOb
    obtain ⟨c, b, g, v, hlk, hdj, hg, hov, hne, hst⟩ := hOb
    obtain ⟨dj, hdj⟩ := Option.isSome_iff_exists.1 hdj
    rw [hdj] at hlk
    simp only [Option.getD_some] at hlk
    have hr := hregs dj (by simp [gQ, hgd, hdj]) _ hlk
    have hw : Region.wanted o (yielded ops.toArray a.tmps) = g := by
      have hdj' : (ops.toArray[j]?).bind (·.dst) = some dj := by simpa using hdj
      rw [← hg]
      simp only [Region.wanted, hgd, yielded, hdj', Option.bind_some, hr]
      cases c <;> cases b <;> cases want <;> rfl
    have hall : ∀ (ξ' : Nat → Value), (∀ j, j ≠ i → ξ' j = ξ j) → (H.map fun h => h.at (done (l.setIfInBounds i true)) ξ') = H.map fun h => h.at (done l) ξ := by
      intro ξ' he
      apply List.ext_getElem?
      intro e
      rw [List.getElem?_map, List.getElem?_map]
      cases hh : H[e]? with
      | none => rfl
      | some h =>
        simp only [Option.map_some, Option.some.injEq]
        refine hkeep ξ' he e h hh ?_
        by_cases hm : e ∈ d.acc
        · exact hne e hm h hh
        · exact hmiss e h hh hm
    have hval : d.ov.val (upd ξ i (gv g v)) i = gv g v := by rw [hov]; rfl
    have hhold : d.ov.holds (upd ξ i (gv g v)) i := by rw [hov]; exact aS _ _ _
    rw [hw]
    have hfin : ∀ w' U', Below w0.heap.size w0 w' → Sep w0.heap.size w' (H.map fun h => h.at (done l) ξ) U' → K (a.put o.dst (gv g v)) w' := by
      intro w' U' hb hs
      refine k (upd ξ i (gv g v)) _ _ ⟨by simpa using hI.len, hdown', hnd _ (fun j hj => gV hj) hhold, ?_, ?_, hreg' _ _ (fun j hj => gV hj) hval, hb, U', by rw [hall _ fun j hj => gV hj]; exact hs⟩
      · cases o.dst <;> simp [Act.put, hI.size]
      · cases o.dst <;> simp [Act.put, hI.defers]
    cases g with
    | false => exact hfin w U hI.bel hU
    | true =>
      obtain ⟨V, W, hV, hVr, hWr, hVW, hcl⟩ := touch2 haccd (fun e he => by simpa using hal e he) hU
      have hV' := hV
      rw [hpicked] at hV'
      refine hst rfl o a w V K Q rfl hagr hI.bel hV' fun v' w' V' hφ hm hs => ?_
      subst hφ
      rw [← hpicked] at hs
      obtain ⟨U', hU'⟩ := hcl w' _ V' rfl (fun _ _ => rfl) (fun k hk => hm.block k (hWr k hk).2 fun hv => hVW k hv hk) (fun k hk hw => (hm.new k hk).elim (fun hv => hVW k hv hw) fun hge => absurd (hWr k hw).2 (by omega)) hs
      exact hfin w' U' (hm.below hI.bel fun k hk => (hVr k hk).1) hU'
theorem Inv.all2 (hc : chk ops D H = true) (haccs : ∀ d ∈ D, kw d.acc = true) (hN : ∀ o ∈ ops, ∀ t, o.dst = some t → t < N) (hob : Obl2 P w0 ops D H ops D 0 (fun _ => F))
    (hend : ∀ l ξ a w, (∀ i, i < ops.length → done l i = true) → Inv w0 N F ops D H l ξ a w → Q .normal a w) : ∀ (fuel : Nat) (l : Array Bool) (ξ : Nat → Value) (a : Act) (w : World), l.toList.count false = fuel → Inv w0 N F ops D H l ξ a w →
    wpAny P .any ops.toArray Q fuel l a w := by
  have hlenD : ops.length = D.length := by
    simp only [chk, Bool.and_eq_true] at hc
    exact Nat.eq_of_beq_eq_true hc.1.1
  have hready : ∀ (l : Array Bool), l.size = ops.length → Region.ready .any ops.toArray l = [] → ∀ i, i < ops.length → done l i = true := by
    intro l hl hr i
    induction i using Nat.strongRecOn with
    | _ i ih =>
      intro hi
      cases hd : done l i with
      | true => rfl
      | false =>
        exfalso
        have ho : ops[i]? = some ops[i] := List.getElem?_eq_getElem hi
        have hdD : D[i]? = some (D[i]'(by omega)) := List.getElem?_eq_getElem _
        have hck := j1 hc ho hdD
        simp only [kV, Bool.and_eq_true, List.all_eq_true] at hck
        have hmem : i ∈ Region.ready .any ops.toArray l := by
          refine mem_ready.2 ⟨?_, ops[i], by simp, fun e he hb => ?_⟩
          · simp only [done, Array.getD_eq_getD_getElem?] at hd ⊢
            have : l[i]? = some (l[i]'(by omega)) := Array.getElem?_eq_getElem _
            rw [this] at hd ⊢
            exact hd
          · have hlt := hck.1.1.1.1.1 e.on (hG.2 ⟨e, he, hb, rfl⟩)
            rw [dI] at hlt
            have hlt := of_decide_eq_true hlt
            exact ih e.on hlt (by omega)
        rw [hr] at hmem
        cases hmem
  intro fuel
  induction fuel with
  | zero =>
    intro l ξ a w hcnt hI
    have hall : ∀ i, i < ops.length → done l i = true := by
      intro i hi
      have hl : l[i]? = some (l[i]'(by rw [hI.len]; exact hi)) := Array.getElem?_eq_getElem _
      simp only [done, Array.getD_eq_getD_getElem?, hl, Option.getD_some]
      have : false ∉ l.toList := List.count_eq_zero.1 hcnt
      cases hb : l[i]'(by rw [hI.len]; exact hi) with
      | true => rfl
      | false => exact absurd (by rw [← hb]; exact Array.getElem_mem_toList _) this
    refine ⟨?_, hend l ξ a w hall hI⟩
    rw [List.eq_nil_iff_forall_not_mem]
    intro i hi
    obtain ⟨h1, o, ho, _⟩ := mem_ready.1 hi
    have hlt : i < ops.length := by
      have := (Array.getElem?_eq_some_iff.1 ho).1
      simpa using this
    have := hall i hlt
    have hl : l[i]? = some (l[i]'(by rw [hI.len]; exact hlt)) := Array.getElem?_eq_getElem _
    simp only [done, Array.getD_eq_getD_getElem?, hl, Option.getD_some] at this h1
    rw [this] at h1; cases h1
  | succ fuel ih =>
    intro l ξ a w hcnt hI
    refine ⟨fun hr => hend l ξ a w (hready l hI.len hr) hI, fun i hi => ?_⟩
    obtain ⟨h1, o, ho, hpre⟩ := mem_ready.1 hi
    have ho' : ops[i]? = some o := by simpa using ho
    have hlt : i < ops.length := (List.getElem?_eq_some_iff.1 ho').1
    have hl : l[i]? = some (l[i]'(by rw [hI.len]; exact hlt)) := Array.getElem?_eq_getElem _
    have hdone : done l i = false := by
      simp only [done, Array.getD_eq_getD_getElem?, hl, Option.getD_some] at h1 ⊢
      exact h1
    have hpre' : ∀ j, Bef ops j i → done l j = true := by
      intro j hb
      cases hb with
      | edge h1 h2 =>
        rw [ho'] at h1; simp only [Option.some.injEq] at h1; subst h1
        obtain ⟨e, he, hb, rfl⟩ := hG.1 h2
        exact hpre e he hb
      | more h1 h2 h3 =>
        rw [ho'] at h1; simp only [Option.some.injEq] at h1; subst h1
        obtain ⟨e, he, hb, rfl⟩ := hG.1 h2
        exact hI.down _ _ h3 (hpre e he hb)
    have hdD : D[i]? = some (D[i]'(by omega)) := List.getElem?_eq_getElem _
    have hstep := hI.step2 (Q := Q) (K := wpAny P .any ops.toArray Q fuel (l.setIfInBounds i true)) hc haccs hN hob ho' hdD hdone hpre' fun ξ' a' w' hI' => ih _ ξ' a' w' (by
      have hl' : l.toList[i]? = some false := by
        rw [Array.getElem?_toList]
        simp only [done, Array.getD_eq_getD_getElem?, hl, Option.getD_some] at hdone
        rw [hl, hdone]
      have := kI hl'
      rw [Array.toList_setIfInBounds]
      omega) hI'
    unfold wpOp
    rw [ho]
    simp only
    split
    · rename_i hw; rw [if_pos hw] at hstep; exact .inl hstep
    · rename_i hw; rw [if_neg hw] at hstep; exact hstep
theorem draws2 (hm : P.follows .mixedOrders = true) {id : Nat} {a : Act} {w : World} {L : List Asn} (D : List DOp) (H : List Hist) (h : St w0 N F L a w) (hL : H.map (·.init) = L) (hc : (chk ops D H && D.all (fun d => kw d.acc) && pZ ops N) = true)
    (hob : Obl2 P w0 ops D H ops D 0 (fun _ => F)) (k : ∀ ξ a w, (∀ j, fY D ξ j) → St w0 N (endF ops D 0 ξ F) (H.map fun h => h.at (fun _ => true) ξ) a w → Q .normal a w) : (Code.region id ops.toArray true).wp P Q a w := by
  simp only [Bool.and_eq_true] at hc
  obtain ⟨⟨hc, hacc⟩, hN⟩ := hc
  have hlenD : ops.length = D.length := by
    have := hc
    simp only [chk, Bool.and_eq_true] at this
    exact Nat.eq_of_beq_eq_true this.1.1
  have hz : ∀ (m i : Nat), done (Array.replicate m false) i = false := by
    intro m i
    simp only [done, Array.getD_eq_getD_getElem?, Array.getElem?_replicate]
    split <;> rfl
  refine wp_region_any hm ?_
  refine Inv.all2 (N := N) (w0 := w0) (F := F) hc (fun d hd => List.all_eq_true.1 hacc d hd) (fun o ho t ht => ?_) hob ?_ _ _ (fun _ => undef) _ _ ?_ ?_
  · have := List.all_eq_true.1 hN o ho
    rw [ht] at this
    exact Nat.le_of_ble_eq_true this
  · intro l ξ a w hall hI
    have hreg : ∀ t, look (endF ops D 0 ξ F) t = gj (dd ops D) F (done l) ξ t := by
      intro t
      rw [kG ops D 0 ξ F rfl rfl hlenD (fun t => by rw [gm]; intro j; simp [dI])]
      refine fc (fun p hp _ => ?_) fun _ _ _ _ => rfl
      have hlt : p.2 < ops.length := by
        have := (List.getElem?_eq_some_iff.1 (cc.1 hp)).1
        simp only [dd, List.length_map, List.length_zip] at this
        omega
      rw [hall _ hlt, dI]
      simpa using hlt
    have hent : (H.map fun h => h.at (done l) ξ) = H.map fun h => h.at (fun _ => true) ξ := by
      apply List.ext_getElem?
      intro e
      rw [List.getElem?_map, List.getElem?_map]
      cases hh : H[e]? with
      | none => rfl
      | some h =>
        simp only [Option.map_some, Option.some.injEq]
        refine Hist.at_congr (fun p hp => ?_) fun _ _ _ => rfl
        have hck := hc
        simp only [chk, Bool.and_eq_true] at hck
        have := List.all_eq_true.1 (List.all_eq_true.1 hck.1.2 h (List.mem_of_getElem? hh)) p hp
        rw [dI] at this
        exact hall _ (of_decide_eq_true this)
    refine k ξ a w (fun j => ?_) ⟨hI.size, hI.defers, fun t v hv => hI.regs t v (by rw [← hreg t]; exact hv), hI.bel, by rw [← hent]; exact hI.sep⟩
    unfold fY
    split
    · rename_i φ acc hD
      have hlt : j < ops.length := by rw [hlenD]; exact (List.getElem?_eq_some_iff.1 hD).1
      exact hI.val j (hall j hlt) _ hD
    · trivial
  · simp
  · obtain ⟨U, hU⟩ := h.sep
    refine ⟨by simp, fun i j _ hi => (by rw [hz] at hi; cases hi), fun i hi => (by rw [hz] at hi; cases hi), h.size, h.defers, fun t v hv => ?_, ?_, U, ?_⟩
    · rw [gm (fun j => hz _ j)] at hv
      exact h.regs t v hv
    · exact ⟨h.bel.os, h.bel.tape, h.bel.output, h.bel.size, h.bel.block, Nat.le_succ_of_le h.bel.drawn⟩
    · have : (H.map fun h => h.at (done (Array.replicate ops.toArray.size false)) fun _ => undef) = L := by
        rw [← hL]
        refine List.map_congr_left fun h _ => ?_
        unfold Hist.at
        exact jA fun c p _ => by rw [hz]; rfl
      rw [this]
      exact Sep.keep (w := w) (w' := { w with drawn := w.drawn + 1 }) (Nat.le_refl w.heap.size) hU fun _ _ => rfl
def Obl3 (P : Program) (w0 : World) (ops : List Oper) (D : List DOp) (H : List Hist) (C : List Nat) : List Oper → List DOp → Nat → ((Nat → Value) → List (Nat × Value)) → Prop
  | o :: os, d :: ds, i, F => (∀ ξ, (∀ j, (C.getD i 0).testBit j = true → fY D ξ j) → ObS2 P w0 ops H F ξ i o d) ∧
      Obl3 P w0 ops D H C os ds (i + 1) (fun ξ => match o.dst with | some t => (t, d.ov.val ξ i) :: F ξ | none => F ξ)
  | _, _, _, _ => True
theorem obl32 : ∀ {os : List Oper} {ds : List DOp} {i : Nat} {G : (Nat → Value) → List (Nat × Value)}, Obl3 P w0 ops D H (clo ops []) os ds i G → Obl2 P w0 ops D H os ds i G
  | [], _, _, _, _ => trivial
  | _ :: _, [], _, _, _ => trivial
  | _ :: _, _ :: _, _, _, h => ⟨h.1, obl32 h.2⟩
theorem hO (C : List Nat) (hC : (clo ops [] == C) = true) (hm : P.follows .mixedOrders = true) {id : Nat} {a : Act} {w : World} {L : List Asn} (D : List DOp) (H : List Hist) (h : St w0 N F L a w) (hL : H.map (·.init) = L) (hc : (chk ops D H && D.all (fun d => kw d.acc) && pZ ops N) = true)
    (hob : Obl3 P w0 ops D H C ops D 0 (fun _ => F)) (k : ∀ ξ a w, (∀ j, fY D ξ j) → St w0 N (endF ops D 0 ξ F) (H.map fun h => h.at (fun _ => true) ξ) a w → Q .normal a w) : (Code.region id ops.toArray true).wp P Q a w := by
  have hC := eq_of_beq hC
  subst hC
  exact draws2 hm D H h hL hc (obl32 hob) k
theorem obI {i : Nat} {ξ : Nat → Value} {G : (Nat → Value) → List (Nat × Value)} {o : Oper} {d : DOp} (h : ObS P w0 ops H G ξ i o d) : ObS2 P w0 ops H G ξ i o d := .inl h
theorem obK {i : Nat} {ξ : Nat → Value} {G : (Nat → Value) → List (Nat × Value)} {op : Op} {ty : TypeId} {pos : String} {aft : Array Edge} {dst : Option Tmp} {d : DOp} {j : Nat} {want : Bool}
    (hl : look (G ξ) (((ops[j]?).bind (·.dst)).getD 0) = some (.bool want)) (hd : ((ops[j]?).bind (·.dst)).isSome = true) (h : ObS P w0 ops H G ξ i ⟨dst, op, ty, pos, aft, none⟩ d) : ObS2 P w0 ops H G ξ i ⟨dst, op, ty, pos, aft, some (j, want)⟩ d :=
  .inr ⟨j, want, rfl, hl, hd, h⟩
end
end Go.Sx
namespace Go.Sx
open Go Go.RowKit
def agc (v : Value) (i : Nat) : Value := v.cells.getD i undef
def RetA (w : World) (g : Value → List Value) (A : Value → List Asn) : Ending → World → Prop := Ret w (fun v => v = .agg (g v).toArray ∧ ∀ x ∈ g v, d4 x) A
theorem allSl2 {a b : Value} (ha : d4 a) (hb : d4 b) : ∀ x ∈ [a, b], d4 x := fun x hx => by
  rcases List.mem_cons.1 hx with rfl | hx
  · exact ha
  · rw [List.mem_singleton.1 hx]; exact hb
theorem allSl3 {a b c : Value} (ha : d4 a) (hb : d4 b) (hc : d4 c) : ∀ x ∈ [a, b, c], d4 x := fun x hx => by
  rcases List.mem_cons.1 hx with rfl | hx
  · exact ha
  · exact allSl2 hb hc x hx
theorem one2 {a b : Value} (ha : d4 a) (hb : d4 b) : (Value.agg #[a, b]).cells.toList.all Value.oneCell' = true := by
  obtain ⟨_, _, _, rfl⟩ := ha
  obtain ⟨_, _, _, rfl⟩ := hb
  rfl
theorem one3 {a b c : Value} (ha : d4 a) (hb : d4 b) (hc : d4 c) : (Value.agg #[a, b, c]).cells.toList.all Value.oneCell' = true := by
  obtain ⟨_, _, _, rfl⟩ := ha
  obtain ⟨_, _, _, rfl⟩ := hb
  obtain ⟨_, _, _, rfl⟩ := hc
  rfl
theorem sl2 {a b : Value} (h : ∀ x ∈ [a, b], d4 x) : d4 a ∧ d4 b := ⟨h a (by simp), h b (by simp)⟩
theorem sl3 {a b c : Value} (h : ∀ x ∈ [a, b, c], d4 x) : d4 a ∧ d4 b ∧ d4 c := ⟨h a (by simp), h b (by simp), h c (by simp)⟩
section
variable {P : Program} {w0 : World} {N : Nat} {F : List (Nat × Value)} {L : List Asn} {a : Act} {w : World} {ops : Array Oper} {Q : Exit → Act → World → Prop} {rest : List Oper}
  {d : Nat} {op : Op} {ty : TypeId} {pos : String} {aft : Array Edge}
theorem c_ag {f : FuncId} {vs : List Value} {g : Value → List Value} {A : Value → List Asn} (h : St w0 N F L a w) (he : Ent P F op f vs) (ct : ∀ w, Below w0.heap.size w0 w → (∃ U, Sep w0.heap.size w L U) → Calls P f vs.toArray w (RetA w g A)) (hd : Nat.blt d N = true)
    (k : ∀ v a w, (v = .agg (g v).toArray ∧ ∀ x ∈ g v, d4 x) → St w0 N ((d, v) :: F) (A v ++ L) a w → wpList P ops Q rest a w) : wpList P ops Q (⟨some d, op, ty, pos, aft, none⟩ :: rest) a w :=
  c_new h he ct hd fun v a w hv h => k v a w hv h
theorem RetR.top {α : Type} [Cod α] {f : FuncId} {args : Array Value} {e : TypeId} {xs : List α} {p : Prop} {w' : World} (h : Calls P f args w (RetR w' e xs p)) : Calls P f args w (RetR w' e xs True) :=
  h.mono fun _ _ ⟨v, U, h1, h2, h3, h4⟩ => ⟨v, U, h1, ⟨h2.1, trivial⟩, h3, h4⟩
theorem RetR.cast {α : Type} [Cod α] {f : FuncId} {args : Array Value} {e : TypeId} {xs ys : List α} {p : Prop} {w' : World} (h : Calls P f args w (RetR w' e xs p)) (he : xs = ys) : Calls P f args w (RetR w' e ys p) := he ▸ h
theorem RetP.cast {f : FuncId} {args : Array Value} {u v : Value} {p : Prop} {w' : World} (h : Calls P f args w (RetP w' u p)) (he : u = v) : Calls P f args w (RetP w' v p) := he ▸ h
theorem Rd.cast {u v : Value} (h : Rd P w0 F L op u) (he : u = v) : Rd P w0 F L op v := he ▸ h
theorem kd {t : TypeId} {x y : Operand} {u v : Value} (hb : BuildF P t [.slice none 0 0, .slice none 0 0] [(0, 1), (1, 1)]) (hx : evs F [x, y] = some [u, v]) (hu : d4 u) (hv : d4 v) : Rd P w0 F [] (.build t #[(0, x), (1, y)]) (.agg #[u, v]) := by
  obtain ⟨_, _, _, rfl⟩ := hu
  obtain ⟨_, _, _, rfl⟩ := hv
  exact bW (parts := [(0, x), (1, y)]) hb hx rfl rfl
theorem kb {t : TypeId} {x y z : Operand} {u v s : Value} (hb : BuildF P t [.slice none 0 0, .slice none 0 0, .slice none 0 0] [(0, 1), (1, 1), (2, 1)]) (hx : evs F [x, y, z] = some [u, v, s]) (hu : d4 u) (hv : d4 v) (hs : d4 s) :
    Rd P w0 F [] (.build t #[(0, x), (1, y), (2, z)]) (.agg #[u, v, s]) := by
  obtain ⟨_, _, _, rfl⟩ := hu
  obtain ⟨_, _, _, rfl⟩ := hv
  obtain ⟨_, _, _, rfl⟩ := hs
  exact bW (parts := [(0, x), (1, y), (2, z)]) hb hx rfl rfl
end
end Go.Sx
