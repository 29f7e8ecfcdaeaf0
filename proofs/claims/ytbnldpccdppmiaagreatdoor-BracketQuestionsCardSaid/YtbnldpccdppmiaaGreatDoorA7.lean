/- A part of the proof that the law BracketQuestions/Checks answers true at every input and leaves its arguments as they were. -/
import Derived.Test.YtbnldpccdppmiaaGreatDoorA6
import Derived.Laws.Pointers
import Derived.Laws.Cover3
import Derived.LoopN
set_option linter.unusedVariables false
set_option linter.unusedSimpArgs false
namespace Go.Sx
open Go Go.RowKit
def subc : List Nat → Code → Code
  | [], c => c
  | 0 :: p, .seq a _ => subc p a
  | _ :: p, .seq _ b => subc p b
  | 0 :: p, .cond _ a _ => subc p a
  | _ :: p, .cond _ _ b => subc p b
  | _ :: p, .block _ c => subc p c
  | _ :: p, .loop c => subc p c
  | _ :: p, .scope c => subc p c
  | _ :: _, c => c
inductive Nx (S R : Type) where
  | go (s : S)
  | out (s : S)
  | ret (r : R)
def cd {S R : Type} (B : S → Nx S R) : Nat → S → S ⊕ R
  | 0, s => .inl s
  | n + 1, s => match B s with
    | .go s' => cd B n s'
    | .out s' => .inl s'
    | .ret r => .inr r
theorem cC {S R : Type} {B : S → Nx S R} {n : Nat} {s s' : S} {x : S ⊕ R} (hx : cd B (n + 1) s = x) (h : B s = .go s') : cd B n s' = x := by
  rw [← hx]; simp only [cd, h]
theorem ej {S R : Type} {B : S → Nx S R} {n : Nat} {s s' : S} {x : S ⊕ R} (hx : cd B (n + 1) s = x) (h : B s = .out s') : x = .inl s' := by
  rw [← hx]; simp only [cd, h]
theorem i4 {S R : Type} {B : S → Nx S R} {n : Nat} {s : S} {r : R} {x : S ⊕ R} (hx : cd B (n + 1) s = x) (h : B s = .ret r) : x = .inr r := by
  rw [← hx]; simp only [cd, h]
def fin {S R T : Type} (x : S ⊕ R) (f : S → T) (g : R → T) : T := match x with | .inl s => f s | .inr r => g r
theorem fe {S R T : Type} {x : S ⊕ R} {f : S → T} {g : R → T} {s : S} (h : x = .inl s) : fin x f g = f s := by rw [h]; rfl
theorem mX {S R T : Type} {x : S ⊕ R} {f : S → T} {g : R → T} {r : R} (h : x = .inr r) : fin x f g = g r := by rw [h]; rfl
def gt {α : Type} [Inhabited α] (l : List α) (i : Nat) : α := l.getD i default
theorem ec {α : Type} [Inhabited α] {l : List α} {i : Nat} (h : i < l.length) : l[i]? = some (gt l i) := by
  simp [gt, List.getD, List.getElem?_eq_getElem h]
def All {α : Type} (p : α → Prop) (l : List α) : Prop := ∀ x ∈ l, p x
theorem All.nil {α : Type} {p : α → Prop} : All p [] := fun _ h => by cases h
theorem All.one {α : Type} {p : α → Prop} {x : α} (h : p x) : All p [x] := fun y hy => by simp at hy; exact hy ▸ h
theorem All.cons {α : Type} {p : α → Prop} {x : α} {l : List α} (h : p x) (hl : All p l) : All p (x :: l) := fun y hy => by
  rcases List.mem_cons.1 hy with rfl | hy
  · exact h
  · exact hl y hy
theorem All.app {α : Type} {p : α → Prop} {l m : List α} (h : All p l) (hm : All p m) : All p (l ++ m) := fun x hx => (List.mem_append.1 hx).elim (h x) (hm x)
theorem All.set {α : Type} {p : α → Prop} {l : List α} {i : Nat} {x : α} (h : All p l) (hx : p x) : All p (l.set i x) := fun y hy => (List.mem_or_eq_of_mem_set hy).elim (h y) fun e => e ▸ hx
theorem All.take {α : Type} {p : α → Prop} {l : List α} {i : Nat} (h : All p l) : All p (l.take i) := fun y hy => h y (List.mem_of_mem_take hy)
theorem All.drop {α : Type} {p : α → Prop} {l : List α} {i : Nat} (h : All p l) : All p (l.drop i) := fun y hy => h y (List.mem_of_mem_drop hy)
theorem All.gt {α : Type} [Inhabited α] {p : α → Prop} {l : List α} {i : Nat} (h : All p l) (d : p default) : p (gt l i) := by
  unfold Sx.gt
  rw [List.getD_eq_getElem?_getD]
  cases e : l[i]? with
  | none => exact d
  | some x => exact h x (List.mem_of_getElem? e)
theorem All.mono {α : Type} {p q : α → Prop} {l : List α} (h : All p l) (hpq : ∀ x, p x → q x) : All q l := fun x hx => hpq x (h x hx)
theorem All.if {α : Type} {p : α → Prop} {c : Bool} {l m : List α} (h : All p l) (hm : All p m) : All p (bif c then l else m) := by cases c; exact hm; exact h
section
variable {P : Program} {w0 : World} {N : Nat} {F : List (Nat × Value)} {L : List Asn} {a : Act} {w : World} {ops : Array Oper} {Q : Exit → Act → World → Prop} {rest : List Oper}
  {d : Nat} {op : Op} {ty : TypeId} {pos : String} {aft : Array Edge}
theorem St.cast {F' : List (Nat × Value)} {L' : List Asn} (h : St w0 N F L a w) (e : F = F') (e' : L = L') : St w0 N F' L' a w := e ▸ e' ▸ h
end
end Go.Sx
namespace Go.Sx
open Go Go.RowKit
section
variable {P : Program} {w0 : World} {N : Nat} {F : List (Nat × Value)} {L : List Asn} {a : Act} {w : World} {ops : Array Oper} {Q : Exit → Act → World → Prop} {rest : List Oper}
  {d : Nat} {op : Op} {ty : TypeId} {pos : String} {aft : Array Edge}
def Ent (P : Program) (F : List (Nat × Value)) (op : Op) (f : FuncId) (vs : List Value) : Prop := ∀ (o : Oper) (a : Act) (w : World), o.op = op → Agr F a → (execOp a.eval o).run P w = .ok (.enter f vs.toArray) w
theorem bh {f : FuncId} {args : Array Operand} {ats : Array TypeId} {vs : List Value} (hc : ∀ args w, (callFunc f args).run P w = .ok (.enter f args) w) (ha : evs F args.toList = some vs) : Ent P F (.call ⟨.value (.func f), args, ats⟩) f vs :=
  fun _ _ w ho hg => ka hc ha ho hg w
theorem ow {f : FuncId} {x : Operand} {args : Array Operand} {ats : Array TypeId} {vs cap : List Value} (hc : ∀ args w, (callFunc f args).run P w = .ok (.enter f args) w) (hx : ev F x = some (.func (.func f) #[] cap.toArray)) (ha : evs F args.toList = some vs) :
    Ent P F (.call ⟨.value x, args, ats⟩) f (vs ++ cap) := fun _ _ w ho hg => o6 hc hx ha ho hg w
theorem df {f : FuncId} {vs : List Value} {v : Value} {p : Prop} (he : Ent P F op f vs) (ct : ∀ w, Below w0.heap.size w0 w → (∃ U, Sep w0.heap.size w L U) → Calls P f vs.toArray w (RetP w v p)) : gP P w0 F L op (· = v) (fun _ => L) :=
  l8 (A := fun _ => []) he fun w hb hs => (ct w hb hs).mono fun _ _ h => (show RetV w v _ _ from ⟨h.1, h.2.2⟩).ret
theorem dQ {f : FuncId} {vs : List Value} {v : Value} {p : Prop} (h : St w0 N F L a w) (he : Ent P F op f vs) (ct : ∀ w, Below w0.heap.size w0 w → (∃ U, Sep w0.heap.size w L U) → Calls P f vs.toArray w (RetP w v p)) (hd : Nat.blt d N = true)
    (k : ∀ a w, St w0 N ((d, v) :: F) L a w → wpList P ops Q rest a w) : wpList P ops Q (⟨some d, op, ty, pos, aft, none⟩ :: rest) a w :=
  wpList_plain rfl fun _ hK => h.gen (A := L) (B := []) (by simp) (df he ct) _ rfl fun v' _ U hv hb hs' => by subst hv; exact hK _ _ (k _ _ (h.put hd _ hb (U := U) (by simpa using hs')))
theorem c_new {f : FuncId} {vs : List Value} {φ : Value → Prop} {A : Value → List Asn} (h : St w0 N F L a w) (he : Ent P F op f vs) (ct : ∀ w, Below w0.heap.size w0 w → (∃ U, Sep w0.heap.size w L U) → Calls P f vs.toArray w (Ret w φ A)) (hd : Nat.blt d N = true)
    (k : ∀ v a w, φ v → St w0 N ((d, v) :: F) (A v ++ L) a w → wpList P ops Q rest a w) : wpList P ops Q (⟨some d, op, ty, pos, aft, none⟩ :: rest) a w :=
  wpList_plain rfl fun _ hK => h.gen (A := L) (B := []) (by simp) (l8 he ct) _ rfl fun v _ U hv hb hs' => hK _ _ (k v _ _ hv (h.put hd v hb (U := U) (by simpa using hs')))
theorem io {α : Type} [Cod α] {f : FuncId} {vs : List Value} {e : TypeId} {xs : List α} {p : Prop} (h : St w0 N F L a w) (he : Ent P F op f vs) (ct : ∀ w, Below w0.heap.size w0 w → (∃ U, Sep w0.heap.size w L U) → Calls P f vs.toArray w (RetR w e xs p)) (hd : Nat.blt d N = true)
    (k : ∀ v a w, p → St w0 N ((d, v) :: F) (.row e v xs :: L) a w → wpList P ops Q rest a w) : wpList P ops Q (⟨some d, op, ty, pos, aft, none⟩ :: rest) a w :=
  c_new h he ct hd fun v a w hv h => k v a w hv.2 h
def tfst : Value → Value | .tuple a => a.getD 0 undef | _ => undef
def RetT {α : Type} [Cod α] (w : World) (e : TypeId) (xs : List α) (vs : List Value) (p : Prop) : Ending → World → Prop := Ret w (fun v => v = .tuple (tfst v :: vs).toArray ∧ SL (tfst v) xs.length ∧ p) (fun v => [.row e (tfst v) xs])
theorem RetT.pr {f : FuncId} {args : Array Value} {α : Type} [Cod α] {e : TypeId} {xs : List α} {vs : List Value} {p : Prop} {w' : World} (h : Calls P f args w (RetT w' e xs vs p)) : p := by
  obtain ⟨_, _, _, ⟨_, _, _, ⟨_, _, hp⟩, _⟩, _⟩ := h []
  exact hp
def StepB (P : Program) (w0 : World) (F : List (Nat × Value)) (L : List Asn) (op : Op) (φ : Value → Prop) (L' : Value → List Asn) : Prop :=
  ∀ (o : Oper) (a : Act) (w : World) (B : Asn) (K : Act → World → Prop) (Q : Exit → Act → World → Prop), o.op = op → Agr F a → Below w0.heap.size w0 w → (∃ U, Sep w0.heap.size w (L ++ [B]) U) →
    (∀ v w', φ v → Below w0.heap.size w0 w' → (∃ U', Sep w0.heap.size w' (L' v ++ [B]) U') → K (a.put o.dst v) w') → o.wp P a w K Q
def Asn.others (lo : Nat) (w : World) (U : Fp) : Asn :=
  ⟨fun w' f => (∀ k, f k ↔ lo ≤ k ∧ k < w.heap.size ∧ ¬ U k) ∧ ∀ k, f k → w'.heap[k]? = w.heap[k]?, fun h ⟨h1, h2⟩ => ⟨h1, fun k hk => (h k hk).trans (h2 k hk)⟩⟩
theorem StepB.step {φ : Value → Prop} {L' : Value → List Asn} (h : StepB P w0 F L op φ L') : gP P w0 F L op φ L' := by
  intro o a w U K Q ho ha hb hs k
  have hB : Sep w0.heap.size w [Asn.others w0.heap.size w U] (fun k => w0.heap.size ≤ k ∧ k < w.heap.size ∧ ¬ U k) :=
    ⟨fun k => w0.heap.size ≤ k ∧ k < w.heap.size ∧ ¬ U k, fun _ => False, fun k => by simp, fun _ _ => id, fun k hk => ⟨hk.1, hk.2.1⟩, ⟨fun _ => Iff.rfl, fun _ _ => rfl⟩, fun _ => id⟩
  refine h o a w _ K Q ho ha hb ⟨_, hs.append hB fun k hk hn => hn.2.2 hk⟩ fun v w' hv hb' ⟨U', hU'⟩ => ?_
  obtain ⟨V, W, hV, hW, hVW, _⟩ := hU'.split
  obtain ⟨f, X, hWf, _, hfr, ⟨hf, hfe⟩, hX⟩ := hW
  have hWk : ∀ k, w0.heap.size ≤ k → k < w.heap.size → ¬ U k → W k := fun k h1 h2 h3 => (hWf k).2 (.inl ((hf k).2 ⟨h1, h2, h3⟩))
  refine k v w' V hv ⟨hb'.os.trans hb.os.symm, hb'.tape.trans hb.tape.symm, hb'.output.trans hb.output.symm, fun n hn hU => ?_, fun k hk hu => ?_, fun k hk => ?_, fun _ => hb'.drawn⟩ hV
  · rcases Nat.lt_or_ge w0.heap.size n with hlt | hge
    · have h1 : f (n - 1) := (hf _).2 ⟨by omega, by omega, fun hu => by have := hU _ hu; omega⟩
      have := (hfr _ h1).2
      omega
    · exact Nat.le_trans hge hb'.size
  · rcases Nat.lt_or_ge k w0.heap.size with hlt | hge
    · rw [hb'.block k hlt, hb.block k hlt]
    · exact hfe k ((hf k).2 ⟨hge, hk, hu⟩)
  · rcases Nat.lt_or_ge k w.heap.size with hlt | hge
    · refine .inl (Classical.byContradiction fun hu => hVW k hk (hWk k (hV.range k hk).1 hlt hu))
    · exact .inr hge
def RetY (w0 : World) (φ : Value → Prop) (A : Value → List Asn) : Ending → World → Prop := fun e w' => ∃ v, e = .returned v ∧ φ v ∧ Below w0.heap.size w0 w' ∧ ∃ U, Sep w0.heap.size w' (A v) U
theorem o4 {f : FuncId} {vs : List Value} {φ : Value → Prop} {A : Value → List Asn} (he : Ent P F op f vs) (ct : ∀ w B, Below w0.heap.size w0 w → (∃ U, Sep w0.heap.size w (L ++ [B]) U) → Calls P f vs.toArray w (RetY w0 φ (fun v => A v ++ [B]))) : gP P w0 F L op φ A :=
  StepB.step fun o a w B K Q ho ha hb hs k => by
    unfold Oper.wp
    rw [he o a w ho ha]
    refine (ct w B hb hs).mono ?_
    rintro e w' ⟨v, rfl, hv, hb', hs'⟩
    exact k v w' hv hb' hs'
theorem St.retY {φ : Value → Prop} {A : Value → List Asn} (h : St w0 N F L a w) {v : Value} (hφ : φ v) (e : L = A v) : RetY w0 φ A (.returned v) w := ⟨v, rfl, hφ, h.bel, by rw [← e]; exact h.sep⟩
theorem RetY.pr {f : FuncId} {args : Array Value} {φ : Value → Prop} {A : Value → List Asn} {p : Prop} (hp : ∀ v, φ v → p) {w' : World} (h : Calls P f args w (RetY w' φ A)) : p := by
  obtain ⟨_, _, _, ⟨_, _, hv, _⟩, _⟩ := h []
  exact hp _ hv
theorem on1 (h : St w0 N F L a w) (i : Nat) {r : Asn} (hi : L[i]? = some r) {φ : Value → Prop} {A' : Value → List Asn} (hs : gP P w0 F [r] op φ A') (hd : Nat.blt d N = true)
    (k : ∀ v a w, φ v → St w0 N ((d, v) :: F) (A' v ++ L.eraseIdx i) a w → wpList P ops Q rest a w) : wpList P ops Q (⟨some d, op, ty, pos, aft, none⟩ :: rest) a w := by
  have hlt : i < L.length := (List.getElem?_eq_some_iff.1 hi).1
  have hp : L.Perm ([r] ++ L.eraseIdx i) := by
    have := fB hlt
    rw [(List.getElem?_eq_some_iff.1 hi).2] at this
    exact this
  exact wpList_plain rfl fun _ hK => h.gen (A := [r]) (B := L.eraseIdx i) hp hs _ rfl fun v _ U hv hb hs' => hK _ _ (k v _ _ hv (h.put hd v hb (U := U) hs'))
theorem on2 (h : St w0 N F L a w) (i j : Nat) {r s : Asn} (hi : L[i]? = some r) (hj : (L.eraseIdx i)[j]? = some s) {φ : Value → Prop} {A' : Value → List Asn} (hs : gP P w0 F [r, s] op φ A') (hd : Nat.blt d N = true)
    (k : ∀ v a w, φ v → St w0 N ((d, v) :: F) (A' v ++ (L.eraseIdx i).eraseIdx j) a w → wpList P ops Q rest a w) : wpList P ops Q (⟨some d, op, ty, pos, aft, none⟩ :: rest) a w := by
  have hlt : i < L.length := (List.getElem?_eq_some_iff.1 hi).1
  have hlt2 : j < (L.eraseIdx i).length := (List.getElem?_eq_some_iff.1 hj).1
  have hp : L.Perm ([r, s] ++ (L.eraseIdx i).eraseIdx j) := by
    have h1 := fB hlt
    rw [(List.getElem?_eq_some_iff.1 hi).2] at h1
    have h2 := fB hlt2
    rw [(List.getElem?_eq_some_iff.1 hj).2] at h2
    exact h1.trans (h2.cons _)
  exact wpList_plain rfl fun _ hK => h.gen (A := [r, s]) (B := (L.eraseIdx i).eraseIdx j) hp hs _ rfl fun v _ U hv hb hs' => hK _ _ (k v _ _ hv (h.put hd v hb (U := U) hs'))
def oW : Value → Bool | .slice none _ _ => true | _ => false
theorem r_eqlSN {x : Operand} {t tt e : TypeId} {sv : Value} {n : Nat} (hu : P.underlying t = some (.slice e)) (hs : SL sv n) (hx : ev F x = some sv) : Rd P w0 F [] (.binOp .eql t x (.const (.slice none 0 0)) tt) (.bool (oW sv)) := by
  obtain ⟨b, c, rfl⟩ := hs
  exact dB fun o a w ho ha => by
    have h2 : a.eval (.const (.slice none 0 0)) = .slice none 0 0 := rfl
    cases b <;> simp [execOp, ho, ha x _ hx, h2, eqGuard_at_slice, binOp, Op.equal, Op.maxDepth, run_equalIn_slice_nil _ 9999 t e _ _ _ hu, oW]
theorem View.nil {α : Type} [Cod α] {sv : Value} {xs : List α} (h : View w sv xs) (hn : oW sv = true) : xs = [] ∧ sv = .slice none 0 0 := by
  obtain ⟨_, ⟨rfl, rfl⟩ | ⟨g, off, cap, cur, e, fr, rfl, _⟩⟩ := h
  · exact ⟨rfl, rfl⟩
  · simp [oW] at hn
theorem mu {sz : Nat} : ∀ (vs : List Value) (us : List (List Value)) (j : Nat) (pre tail : List Value), vs.map (fun v => v.cells.toList) = us → (∀ u ∈ us, u.length = sz) → pre.length = j * sz → tail.length = us.length * sz →
    lM (fun i => some (i * sz, sz)) (pre ++ tail) ((vs.zipIdx j).map fun p => (p.2, p.1)) = some (pre ++ us.flatten)
  | [], us, j, pre, tail, hv, hu, hp, ht => by
    simp only [List.map_nil] at hv
    subst hv
    simp at ht
    subst ht
    simp [lM]
  | v :: vs, us, j, pre, tail, hv, hu, hp, ht => by
    subst hv
    simp only [List.map_cons, List.zipIdx_cons, lM]
    have h1 : v.cells.toList.length = sz := hu _ (by simp)
    simp only [List.map_cons, List.length_cons, List.length_map] at ht
    have hb : (Nat.beq v.cells.toList.length sz && Nat.ble (j * sz + sz) (pre ++ tail).length) = true := by
      rw [h1]
      simp only [List.length_append, hp, ht, Nat.add_mul, Nat.one_mul, Bool.and_eq_true]
      exact ⟨by simp, Nat.ble_eq_true_of_le (by omega)⟩
    rw [hb]
    simp only [cond_true]
    have hspl : spl (pre ++ tail) (j * sz) v.cells.toList = (pre ++ v.cells.toList) ++ tail.drop sz := by
      simp only [spl]
      rw [← hp, List.take_left, h1, List.drop_append, List.drop_of_length_le (by omega)]
      simp
    rw [hspl, mu vs _ (j + 1) (pre ++ v.cells.toList) (tail.drop sz) rfl (fun u h => hu u (by simp [h])) (by simp only [List.length_append, hp, h1, Nat.add_mul, Nat.one_mul])
      (by simp only [List.length_drop, ht, List.length_map, Nat.add_mul, Nat.one_mul]; omega)]
    simp
theorem flat_map {α : Type} [Cod α] (us : List α) : flat us = (us.map Cod.enc).flatten := by simp [flat, List.flatMap]
theorem dg {α : Type} [Cod α] {t e : TypeId} {bytes n : Nat} {zero : List Value} {xs : List Operand} {vs : List Value} (us : List α) (hT : SlT P t e (Cod.n α) bytes zero) (hx : evs F xs = some vs) (hv : vs.map (fun v => v.cells.toList) = us.map Cod.enc) (hn : n = us.length) (hn2 : n ≤ 4096) :
    gP P w0 F [] (.buildSlice t n ((xs.zipIdx).map fun p => (p.2, p.1)).toArray) (fun s => NN s us.length) (fun s => [Asn.row e s us]) := by
  intro o a w U K Q ho ha hb hs k
  obtain ⟨ht, i, z, hi, hz, hzc, hsz, hby, hzl, hn4, _⟩ := hT
  unfold Oper.wp
  have hpos : 0 < Cod.n α := Cod.pos
  have hlen : us.length = vs.length := by
    have := congrArg List.length hv
    simpa using this.symm
  have h2 : (((xs.zipIdx).map fun p => (p.2, p.1)).map fun p => (p.1, a.eval p.2)) = (vs.zipIdx).map fun p => (p.2, p.1) := by
    rw [← ha.evs hx, List.zipIdx_map]
    simp [Function.comp_def]
  have hf : Instr.fill (fun i => some (i * Cod.n α, Cod.n α)) ((Array.range (n * Cod.n α)).map fun j => zero.toArray[j % zero.toArray.size]!) ((vs.zipIdx).map fun p => (p.2, p.1)) = some (flat us).toArray := by
    have := mu (sz := Cod.n α) vs _ 0 [] ((Array.range (n * Cod.n α)).map fun j => zero.toArray[j % zero.toArray.size]!).toList hv (fun u hu => by
      obtain ⟨x, _, rfl⟩ := List.mem_map.1 hu
      exact Cod.len x) (by simp) (by simp [hn])
    rw [List.nil_append, List.nil_append, ← flat_map] at this
    have := kF _ _ _ _ this
    rw [Array.toArray_toList] at this
    exact this
  have n1 : ¬ (2 ^ 24 < n * Cod.n α) := by
    have : n * Cod.n α ≤ 4096 * 4096 := Nat.mul_le_mul hn2 hn4
    omega
  have hz' : z.cells = zero.toArray := by rw [← hzc]
  have hr : (execOp a.eval o).run P w = .ok (.value (.slice (some ⟨w.heap.size, 0, none⟩) n n)) (w.alloc (.cells (flat us).toArray e)) := by
    by_cases h0 : n * Cod.n α = 0
    · have hn0 : n = 0 := by
        rcases Nat.mul_eq_zero.1 h0 with h | h
        · exact h
        · omega
      have hus : us = [] := List.length_eq_zero_iff.1 (by omega)
      subst hus
      have hvs : vs = [] := List.length_eq_zero_iff.1 (by simpa using hlen.symm)
      subst hvs hn0
      have hz0 : ∀ f : Nat → Value, (Array.range (0 * Cod.n α)).map f = #[] := fun f => Array.size_eq_zero_iff.1 (by simp)
      have h00 : 0 * Cod.n α = 0 := Nat.zero_mul _
      have n2 : ¬ (2 ^ 24 < 0) := by decide
      simp only [execOp, ho, Instr.buildSlice, Sem.run_bind, run_underlying ht, Result.andThen_ok, sizeOf, typeInfo, run_program, hi, Sem.run_pure, hsz, gt_iff_lt, hz0, h00, n2, if_false, if_true, List.map_toArray, h2, List.zipIdx_nil, List.map_nil, Instr.fill, newRow, run_newObj]
      rw [show (Array.range 0).map (fun x => (#[] : Array Value)[x % (#[] : Array Value).size]!) = #[] from Array.size_eq_zero_iff.1 (by simp)]
      rfl
    · simp only [execOp, ho, Instr.buildSlice, Sem.run_bind, run_underlying ht, Result.andThen_ok, sizeOf, typeInfo, run_program, hi, Sem.run_pure, hsz, gt_iff_lt, n1, h0, if_false, zeroValue, hz, hz', List.map_toArray, h2, hf, newRow, run_newObj]
      rfl
  rw [hr]
  refine k _ _ (fun k => k = w.heap.size) ⟨_, _, _, by rw [hn]⟩ ((fK w _).weak fun _ h => h.elim) ⟨fun k => k = w.heap.size, fun _ => False, fun k => by simp, fun _ _ => id, fun k hk => by simp only [hk, World.size_alloc]; have := hb.size; omega, ?_, fun _ => id⟩
  refine ⟨⟨by rw [bM], .inr ⟨w.heap.size, n, (flat us).toArray, by rw [hn], Nat.zero_le _, ?_, by omega, by simp [maxLen]; omega, by simp [bM, hn], ?_⟩⟩, fun k => ?_⟩
  · show (w.heap.push _)[w.heap.size]? = _; simp
  · simp [← bM]
  · simp [Value.ownBlock, eq_comm]
theorem eM {α : Type} [Cod α] {t e : TypeId} {bytes : Nat} {zero : List Value} (hT : SlT P t e (Cod.n α) bytes zero) {x y : Operand} {sv tv : Value} {xs ys : List α} {R : List Asn} (hw : ∀ w, (∃ U, Sep w0.heap.size w R U) → View w tv ys) (hx : ev F x = some sv) (hy : ev F y = some tv) (hlen : xs.length + ys.length ≤ 34359738368) :
    gP P w0 F (Asn.row e sv xs :: R) (.call ⟨.builtin .append, #[x, y], #[t, t]⟩) (fun v => ys ≠ [] → NN v (xs ++ ys).length) (fun v => Asn.row e v (xs ++ ys) :: R) := by
  intro o a w U K Q ho ha hb hs k
  obtain ⟨f, V, hU, hd, hlt, ⟨hown, hf1⟩, hV⟩ := hs
  obtain ⟨v', w', hr, h1, hg, hbk, h3⟩ := o7 (P := P) (tt := o.type) hT hown (hw w ⟨V, hV⟩) hlen
  have hrun : (execOp a.eval o).run P w = .ok (.value v') w' := by
    simp [execOp, ho, resolve, invoke, builtin, ha x _ hx, ha y _ hy, hr]
  unfold Oper.wp
  rw [hrun]
  have hVn : ∀ k, V k → ¬ (v'.ownBlock = some k) := fun k hk he => by
    rcases hbk k he with h | h
    · exact hd k ((hf1 k).2 h) hk
    · have := (hV.range k hk).2; omega
  refine k v' w' (fun k => v'.ownBlock = some k ∨ V k) h3 (kx hg (fun k hk => (hU k).2 (.inl ((hf1 k).2 hk))) (dU _ hr) fun k hk => ?_) ?_
  · rcases hk with hk | hk
    · exact (hbk k hk).imp (fun h => (hU k).2 (.inl ((hf1 k).2 h))) fun h => by omega
    · exact .inl ((hU k).2 (.inr hk))
  · refine (o1 h1 fun k hk => ?_).append (hV.moved fun k hk => hg.block k (hV.range k hk).2 fun e => hd k ((hf1 k).2 e.symm) hk) fun k hk hv => hVn k hv hk
    rcases hbk k hk with h | rfl
    · exact (hlt k ((hf1 k).2 h)).1
    · exact hb.size
end
end Go.Sx
namespace Go.Sx
open Go Go.RowKit
theorem View.nilv {α : Type} [Cod α] {w : World} : View w (.slice none 0 0) ([] : List α) := ⟨⟨Nat.zero_le _, Nat.zero_le _⟩, .inl ⟨rfl, rfl⟩⟩
section
variable {P : Program} {w0 : World} {N M : Nat} {F : List (Nat × Value)} {L : List Asn} {a : Act} {w : World} {ops : Array Oper} {Q : Exit → Act → World → Prop} {rest : List Oper}
  {d : Nat} {op : Op} {ty : TypeId} {pos : String} {aft : Array Edge}
theorem kO {c : Operand} {x y : Code} {b : Bool} (h : St w0 N F L a w) (hc : ev F c = some (.bool b)) (k : x.wp P Q a w) (hb : b = true := by rfl) : (Code.cond c x y).wp P Q a w :=
  c8 h hc (fun _ => k) (fun e => by rw [hb] at e; cases e)
theorem kP {c : Operand} {x y : Code} {b : Bool} (h : St w0 N F L a w) (hc : ev F c = some (.bool b)) (k : y.wp P Q a w) (hb : b = false := by rfl) : (Code.cond c x y).wp P Q a w :=
  c8 h hc (fun e => by rw [hb] at e; cases e) (fun _ => k)
theorem tmodb (x : Int) (n : Int) (hn : 0 < n) : -n < Int.tmod x n ∧ Int.tmod x n < n := ⟨by have := Int.lt_tmod_of_pos x hn; omega, Int.tmod_lt_of_pos x hn⟩
theorem inl {f : FuncId} {fn : Func} {c : Code} {vs : List Value} (h : St w0 N F L a w) (he : Ent P F op f vs) (hf : P.funcs[f]? = some fn) (hb : fn.body = some c) (hM : vs.length + (fn.ntmps - vs.length) = M) (hd : Nat.blt d N = true)
    (hcode : ∀ R : Ending → World → Prop, (∀ (v : Value) (L' : List Asn) (w' : World), Below w0.heap.size w0 w' → (∃ U, Sep w0.heap.size w' L' U) → (∀ a', St w0 N ((d, v) :: F) L' a' w' → wpList P ops Q rest a' w') → R (.returned v) w') →
      ∀ ai, St w0 M (zipF 0 vs) L ai w → c.wp P (bodyPost P fn R) ai w) : wpList P ops Q (⟨some d, op, ty, pos, aft, none⟩ :: rest) a w :=
  wpList_plain rfl fun K hK => by
    unfold Oper.wp
    rw [he _ a w rfl h.agr]
    refine calls_of_wp hf hb ?_ 
    refine hcode _ ?_ _ (by
      have := St.init w vs fn.ntmps hM (F := zipF 0 vs) fun _ _ hv => (jx hv).2
      exact ⟨this.size, this.defers, this.regs, h.bel, h.sep⟩)
    intro v L' w' hb' hs' hk
    obtain ⟨U, hU⟩ := hs'
    exact hK _ _ (hk _ (h.put hd v hb' (U := U) hU))
end
end Go.Sx
namespace Go.Sx
open Go Go.RowKit
structure Stp where
  length : Nat
  piece : Nat
  point : Nat
  root : Bool
  c0 : Int
  c1 : Int
  c2 : Int
  deriving DecidableEq
structure At (α : Type) where
  frm : GR
  til : GR
  gap : Bool
  has : Bool
  f : α
  deriving DecidableEq
def cS (x : Stp) : List Value := [.int .u8 ((x.length : Nat) : Int), .int .u8 ((x.piece : Nat) : Int), .int .u8 ((x.point : Nat) : Int), .bool x.root, .int .i8 x.c0, .int .i8 x.c1, .int .i8 x.c2]
def cAI (x : At Int) : List Value := cR x.frm ++ (cR x.til ++ [.bool x.gap, .bool x.has, .int .i64 x.f])
def cAD (x : At Qd) : List Value := cR x.frm ++ (cR x.til ++ (.bool x.gap :: .bool x.has :: cD x.f))
def vS (x : Stp) : Value := .agg (cS x).toArray
theorem nl {v : Value} {B : List Value} (hv : v.oneCell' = true) (hB : ∀ c ∈ B, c.oneCell' = true) : ∀ c ∈ v :: B, c.oneCell' = true := fun c h => by
  rcases List.mem_cons.1 h with rfl | h
  · exact hv
  · exact hB c h
instance : Cod Stp := ⟨cS, 7, fun _ => rfl, fun x => by simp [cS, Value.oneCell'], by decide⟩
instance : Cod (At Int) := ⟨cAI, 21, fun _ => rfl, fun x => fd (oneR _) (fd (oneR _) (by simp [Value.oneCell'])), by decide⟩
instance : Cod (At Qd) := ⟨cAD, 32, fun _ => rfl, fun x => fd (oneR _) (fd (oneR _) (nl rfl (nl rfl (oneD _)))), by decide⟩
instance : Inhabited GI := ⟨⟨false, 0⟩⟩
instance : Inhabited GQ := ⟨⟨default, default⟩⟩
instance : Inhabited GR := ⟨⟨default, default, false⟩⟩
instance : Inhabited Iv := ⟨⟨default, default, false, false⟩⟩
instance : Inhabited Qd := ⟨⟨default, default, default⟩⟩
instance {α : Type} [Inhabited α] : Inhabited (U α) := ⟨⟨default, default⟩⟩
instance {α : Type} [Inhabited α] : Inhabited (At α) := ⟨⟨default, default, false, false, default⟩⟩
instance : Inhabited Stp := ⟨⟨0, 0, 0, false, 0, 0, 0⟩⟩
def SzUD (k : Nat) (x : U Qd) : Prop := SzV k x.iv ∧ SzD k x.f
theorem SzI_d (k : Nat) : SzI k default := nM k
theorem p7 (k : Nat) : SzQ k default := ⟨SzI_d k, SzI_d k⟩
theorem SzR_d (k : Nat) : SzR k default := ⟨p7 k, p7 k⟩
theorem eC (k : Nat) : SzV k default := ⟨SzR_d k, SzR_d k⟩
theorem SzD_d (k : Nat) : SzD k default := ⟨p7 k, p7 k, p7 k⟩
theorem SzUD_d (k : Nat) : SzUD k default := ⟨eC k, SzD_d k⟩
def Alt {α : Type} [Inhabited α] (l : List (At α)) : Prop := ∀ j, j < l.length → (gt l j).gap = decide (j % 2 = 1)
theorem py {α : Type} [Inhabited α] {l : List α} {i : Nat} {x : α} (h : i < l.length) : gt (l.set i x) i = x := by simp [gt, List.getD, h]
theorem px {α : Type} [Inhabited α] {l : List α} {i j : Nat} {x : α} (h : i ≠ j) : gt (l.set i x) j = gt l j := by simp [gt, List.getD, h]
theorem Alt.nil {α : Type} [Inhabited α] : Alt ([] : List (At α)) := fun _ h => by simp at h
theorem Alt.set {α : Type} [Inhabited α] {l : List (At α)} {x : At α} {i : Nat} (h : Alt l) (hx : x.gap = (gt l i).gap) : Alt (l.set i x) := fun j hj => by
  rw [List.length_set] at hj
  by_cases e : i = j
  · subst e
    rw [py hj, hx]; exact h i hj
  · rw [px e]; exact h j hj
theorem aq {α : Type} {c : Bool} {a b : List α} : (bif c then a else b).length = bif c then a.length else b.length := by cases c <;> rfl
theorem View.len {α : Type} [Cod α] {w : World} {sv : Value} {xs : List α} (h : View w sv xs) : xs.length ≤ 9223372036854775807 := by
  have := h.1.1; simp only [maxLen] at this; omega
theorem St.len {α : Type} [Cod α] {w0 w : World} {N : Nat} {F : List (Nat × Value)} {L : List Asn} {a : Act} {e : TypeId} {sv : Value} {xs : List α} (h : St w0 N F L a w) (i : Nat) (hi : L[i]? = some (Asn.row e sv xs)) : xs.length ≤ 9223372036854775807 := by
  have := h.row_len i hi; simp only [maxLen] at this; omega
theorem Alt.if {α : Type} [Inhabited α] {c : Bool} {l m : List (At α)} (h : c = true → Alt l) (hm : c = false → Alt m) : Alt (bif c then l else m) := by cases c; exact hm rfl; exact h rfl
theorem Alt.gap {α : Type} [Inhabited α] {l : List (At α)} (h : Alt l) {i : Nat} (hi : i < l.length) (ho : i % 2 = 1) : (gt l i).gap = true := by rw [h i hi]; exact decide_eq_true ho
end Go.Sx
namespace Go.Sx
open Go Go.RowKit
section
variable {P : Program} {w0 : World} {N : Nat} {F : List (Nat × Value)} {L : List Asn} {a : Act} {w : World} {ops : Array Oper} {Q : Exit → Act → World → Prop} {rest : List Oper}
  {d : Nat} {op : Op} {ty : TypeId} {pos : String} {aft : Array Edge}
def oC (m : Nat) : Nat := ((le m).reverse.headD 0).toNat
theorem nf {x ix : Operand} {t : TypeId} {m : Nat} {k : IntKind} (hu : ∀ w, (underlying t).run P w = .ok .string w) (hx : ev F x = some (.string (bs m))) (hi : ev F ix = some (.int k ((0 : Nat) : Int))) (hm : m ≠ 0) : Rd P w0 F [] (.index t x ix) (.int .u8 ((oC m : Nat) : Int)) := by
  have hl : le m ≠ [] := fun e => hm (by rw [← lC m, e]; rfl)
  have hs : 0 < (bs m).size := by
    show 0 < (le m).reverse.toArray.size
    simp only [List.size_toArray, List.length_reverse]
    exact List.length_pos_iff.2 hl
  have := ly (P := P) (w0 := w0) hu hx hi hs
  have e : ((bs m)[0]'hs) = (le m).reverse.headD 0 := by
    have h0 : ∀ (l : List UInt8) (h : 0 < l.length), l[0] = l.headD 0 := fun l h => by
      cases l with
      | nil => simp at h
      | cons a l => rfl
    exact h0 _ _
  rw [e] at this
  exact this
end
end Go.Sx
namespace Go.Sx
open Go Go.RowKit
theorem kk {A B : World → Prop} {Q : World → Prop} (h : ∀ w, Q w) : ∀ w, A w → B w → Q w := fun w _ _ => h w
abbrev dv (v : Value) : DOp := ⟨.det v, []⟩
abbrev dw (v : Value) (l : List Nat) : DOp := ⟨.det v, l⟩
section
variable {P : Program} {w0 : World} {N : Nat} {F : List (Nat × Value)} {ops : List Oper} {D : List DOp} {H : List Hist} {Q : Exit → Act → World → Prop}
variable {i : Nat} {ξ : Nat → Value} {G : (Nat → Value) → List (Nat × Value)} {op : Op} {ty : TypeId} {pos : String} {aft : Array Edge} {dst : Option Tmp} {acc : List Nat}
theorem og1 {j : Nat} {b : Bool} {v : Value} {A : List Asn} (hA : dO H acc i ξ = A) (hne : (acc.all fun e => match H[e]? with | some h => h.steps.all fun p => !(Nat.beq p.1 i) | none => true) = true) (hl : look (G ξ) (((ops[j]?).bind (·.dst)).getD 0) = some (.bool b))
    (hd : ((ops[j]?).bind (·.dst)).isSome = true) (h : b = true → gP P w0 (iI (G ξ) (gp op)) A op (· = v) (fun _ => A)) :
    ObS P w0 ops H G ξ i ⟨dst, op, ty, pos, aft, some (j, true)⟩ ⟨.det (gv b v), acc⟩ := jE (c := true) A hA hne hl hd g_t h
end
end Go.Sx
namespace Go.Sx
open Go Go.RowKit
section
variable {P : Program} {w0 w : World} {N : Nat} {F : List (Nat × Value)} {L : List Asn} {a : Act} {ops : Array Oper} {Q : Exit → Act → World → Prop} {d : Nat} {op : Op} {rest : List Oper} {ty : TypeId} {pos : String} {aft : Array Edge}
theorem gd1 {j dj : Nat} {b : Bool} (h : St w0 N F L a w) (hj : (ops[j]?).bind (·.dst) = some dj) (hl : look F dj = some (.bool b)) {v : Value} (hs : b = true → gP P w0 F L op (· = v) (fun _ => L)) (hd : Nat.blt d N = true)
    (k : ∀ a w, St w0 N ((d, gv b v) :: F) L a w → wpList P ops Q rest a w) : wpList P ops Q (⟨some d, op, ty, pos, aft, some (j, true)⟩ :: rest) a w := gd (c := true) h hj hl g_t hs hd k
theorem gd2 {j dj : Nat} {b : Bool} (h : St w0 N F L a w) (hj : (ops[j]?).bind (·.dst) = some dj) (hl : look F dj = some (.bool b)) {v : Value} (hs : (!b) = true → gP P w0 F L op (· = v) (fun _ => L)) (hd : Nat.blt d N = true)
    (k : ∀ a w, St w0 N ((d, gv (!b) v) :: F) L a w → wpList P ops Q rest a w) : wpList P ops Q (⟨some d, op, ty, pos, aft, some (j, false)⟩ :: rest) a w := gd (c := true) h hj hl g_f hs hd k
end
end Go.Sx
namespace Go.Sx
open Go Go.RowKit
section
variable {P : Program} {w0 : World} {N : Nat} {F : List (Nat × Value)} {L : List Asn} {ops : Array Oper} {Q : Exit → Act → World → Prop} {d : Nat} {op : Op} {rest : List Oper} {ty : TypeId} {pos : String} {aft : Array Edge}
theorem g0 {v : Value} (hs : Rd P w0 F [] op v) (hd : Nat.blt d N = true) (k : ∀ a w, St w0 N ((d, v) :: F) L a w → wpList P ops Q rest a w) : ∀ a w, St w0 N F L a w → wpList P ops Q (⟨some d, op, ty, pos, aft, none⟩ :: rest) a w := fun _ _ h => rd0 h hs hd k
theorem g1 (i : Nat) {r : Asn} {v : Value} (hi : L[i]? = some r) (hs : Rd P w0 F [r] op v) (hd : Nat.blt d N = true) (k : ∀ a w, St w0 N ((d, v) :: F) L a w → wpList P ops Q rest a w) : ∀ a w, St w0 N F L a w → wpList P ops Q (⟨some d, op, ty, pos, aft, none⟩ :: rest) a w := fun _ _ h => rd1 h i hi hs hd k
theorem gl {f : FuncId} {args : Array Operand} {ats : Array TypeId} {vs : List Value} {v : Value} {p : Prop} (hc : ∀ args w, (callFunc f args).run P w = .ok (.enter f args) w) (ha : evs F args.toList = some vs)
    (ct : ∀ w, Calls P f vs.toArray w (RetP w v p)) (hd : Nat.blt d N = true) (k : ∀ a w, St w0 N ((d, v) :: F) L a w → wpList P ops Q rest a w) :
    ∀ a w, St w0 N F L a w → wpList P ops Q (⟨some d, .call ⟨.value (.func f), args, ats⟩, ty, pos, aft, none⟩ :: rest) a w := fun _ _ h => clp h hc ha ct hd k
theorem gc {f : FuncId} {vs : List Value} {v : Value} {p : Prop} (he : Ent P F op f vs) (ct : ∀ w, Below w0.heap.size w0 w → (∃ U, Sep w0.heap.size w L U) → Calls P f vs.toArray w (RetP w v p)) (hd : Nat.blt d N = true)
    (k : ∀ a w, St w0 N ((d, v) :: F) L a w → wpList P ops Q rest a w) : ∀ a w, St w0 N F L a w → wpList P ops Q (⟨some d, op, ty, pos, aft, none⟩ :: rest) a w := fun _ _ h => dQ h he ct hd k
theorem gs (i : Nat) {t e : TypeId} {x y : Operand} {b k n : Nat} {v : Value} {cs us : List Value} (cs' : List Value) (hi : L[i]? = some (Asn.blk b cs e)) (hz : ∀ w, (sizeOf t).run P w = .ok n w) (hx : ev F x = some (ptr b k)) (hy : ev F y = some v)
    (hc : v.cells.toList = us) (hn : us.length = n) (h1 : us.all Value.oneCell' = true) (hf : Nat.ble (k + n) cs.length = true) (hr : spl cs k us = cs')
    (c : ∀ a w, St w0 N F (L.set i (Asn.blk b cs' e)) a w → wpList P ops Q rest a w) : ∀ a w, St w0 N F L a w → wpList P ops Q (⟨none, .store t x y, ty, pos, aft, none⟩ :: rest) a w := fun _ _ h => st h i cs' hi hz hx hy hc hn h1 hf hr c
theorem gb {x : Operand} {v : Value} {t : TypeId} (cs : List Value) (hx : ev F x = some v) (hc : v.cells.toList = cs) (hd : Nat.blt d N = true)
    (k : ∀ b a w, St w0 N ((d, ptr b 0) :: F) (Asn.blk b cs t :: L) a w → wpList P ops Q rest a w) : ∀ a w, St w0 N F L a w → wpList P ops Q (⟨some d, .box t x, ty, pos, aft, none⟩ :: rest) a w := fun _ _ h => bx h cs hx hc hd k
theorem ga {t : TypeId} {z : Value} (cs : List Value) (hz : ∀ w, (zeroValue t).run P w = .ok z w) (hc : z.cells.toList = cs) (hd : Nat.blt d N = true)
    (k : ∀ b a w, St w0 N ((d, ptr b 0) :: F) (Asn.blk b cs t :: L) a w → wpList P ops Q rest a w) : ∀ a w, St w0 N F L a w → wpList P ops Q (⟨some d, .alloc t, ty, pos, aft, none⟩ :: rest) a w := fun _ _ h => al h cs hz hc hd k
end
end Go.Sx
namespace Go.Sx
open Go Go.RowKit
abbrev oQ : GQ := ⟨⟨false, 0⟩, ⟨false, 0⟩⟩
abbrev oD : Qd := ⟨oQ, oQ, oQ⟩
section
variable {P : Program} {w0 : World} {N : Nat} {F : List (Nat × Value)} {L : List Asn} {ops : Array Oper} {Q : Exit → Act → World → Prop} {d : Nat} {op : Op} {rest : List Oper} {ty : TypeId} {pos : String} {aft : Array Edge}
theorem ge1 {j dj : Nat} {b : Bool} (hj : (ops[j]?).bind (·.dst) = some dj) (hl : look F dj = some (.bool b)) {v : Value} (hs : b = true → gP P w0 F L op (· = v) (fun _ => L)) (hd : Nat.blt d N = true)
    (k : ∀ a w, St w0 N ((d, gv b v) :: F) L a w → wpList P ops Q rest a w) : ∀ a w, St w0 N F L a w → wpList P ops Q (⟨some d, op, ty, pos, aft, some (j, true)⟩ :: rest) a w := fun _ _ h => gd1 h hj hl hs hd k
theorem ge2 {j dj : Nat} {b : Bool} (hj : (ops[j]?).bind (·.dst) = some dj) (hl : look F dj = some (.bool b)) {v : Value} (hs : (!b) = true → gP P w0 F L op (· = v) (fun _ => L)) (hd : Nat.blt d N = true)
    (k : ∀ a w, St w0 N ((d, gv (!b) v) :: F) L a w → wpList P ops Q rest a w) : ∀ a w, St w0 N F L a w → wpList P ops Q (⟨some d, op, ty, pos, aft, some (j, false)⟩ :: rest) a w := fun _ _ h => gd2 h hj hl hs hd k
end
end Go.Sx
namespace Go.Sx
open Go Go.RowKit
section
variable {P : Program} {w0 : World} {N : Nat} {F : List (Nat × Value)} {L : List Asn} {ops : Array Oper} {Q : Exit → Act → World → Prop}
theorem gz {a : Act} {w : World} {R : Act → World → Prop} (h : St w0 N F L a w) (k : ∀ a w, St w0 N F L a w → R a w) : R a w := k a w h
theorem gn {K R : Act → World → Prop} (hK : ∀ a w, R a w → K a w) (k : ∀ a w, St w0 N F L a w → R a w) : ∀ a w, St w0 N F L a w → wpList P ops (Exit.then K Q) [] a w := fun a w h => aE (hK a w (k a w h))
theorem gx {R S : Act → World → Prop} (f : ∀ a w, S a w → R a w) (k : ∀ a w, St w0 N F L a w → S a w) : ∀ a w, St w0 N F L a w → R a w := fun a w h => f a w (k a w h)
theorem gr {id : Nat} {l : List Oper} {y : Code} (k : ∀ K : Act → World → Prop, (∀ a w, y.wp P Q a w → K a w) → ∀ a w, St w0 N F L a w → wpList P l.toArray (Exit.then K Q) l a w) : ∀ a w, St w0 N F L a w → (Code.seq (.region id l.toArray false) y).wp P Q a w := fun a w h => bB fun K hK => k K hK a w h
theorem gq {x y : Code} (k : ∀ K : Act → World → Prop, (∀ a w, y.wp P Q a w → K a w) → ∀ a w, St w0 N F L a w → x.wp P (Exit.then K Q) a w) : ∀ a w, St w0 N F L a w → (Code.seq x y).wp P Q a w := fun a w h => bP fun K hK => k K hK a w h
theorem gB {id : Nat} {c : Code} (k : ∀ a w, St w0 N F L a w → c.wp P (Exit.inBlock id Q) a w) : ∀ a w, St w0 N F L a w → (Code.block id c).wp P Q a w := fun a w h => dm (k a w h)
theorem gR {id : Nat} {l : List Oper} (k : ∀ a w, St w0 N F L a w → wpList P l.toArray Q l a w) : ∀ a w, St w0 N F L a w → (Code.region id l.toArray false).wp P Q a w := fun a w h => c_r (k a w h)
theorem gS (k : ∀ a w, St w0 N F L a w → Q .normal a w) : ∀ a w, St w0 N F L a w → Code.skip.wp P Q a w := fun a w h => bR (k a w h)
theorem gE {id : Nat} (k : ∀ a w, St w0 N F L a w → Q (.exit id) a w) : ∀ a w, St w0 N F L a w → (Code.exit id).wp P Q a w := fun a w h => dW (k a w h)
theorem gT (k : ∀ a w, St w0 N F L a w → Q .ret a w) : ∀ a w, St w0 N F L a w → Code.ret.wp P Q a w := fun a w h => cr (k a w h)
theorem gN {id : Nat} (k : ∀ a w, St w0 N F L a w → Q .normal a w) : ∀ a w, St w0 N F L a w → Exit.inBlock id Q .normal a w := k
section
variable {H : List Hist} {i : Nat} {G : (Nat → Value) → List (Nat × Value)} {op : Op} {ty : TypeId} {pos : String} {aft : Array Edge} {dst : Option Tmp} {acc : List Nat} {ol : List Oper}
theorem om {x : Operand} {v : Value} {ξ : Nat → Value} (h : ev (iI (G ξ) (gp (.move x))) x = some v) : ObS P w0 ol H G ξ i ⟨dst, .move x, ty, pos, aft, none⟩ ⟨.det v, []⟩ := ay (aj h)
theorem oh {j : Nat} {b : Bool} {v : Value} {A : List Asn} {ξ : Nat → Value} (hA : dO H acc i ξ = A) (hne : (acc.all fun e => match H[e]? with | some h => h.steps.all fun p => !(Nat.beq p.1 i) | none => true) = true) (hl : look (G ξ) (((ol[j]?).bind (·.dst)).getD 0) = some (.bool b))
    (hd : ((ol[j]?).bind (·.dst)).isSome = true) (h : b = true → Rd P w0 (iI (G ξ) (gp op)) A op v) :
    ObS P w0 ol H G ξ i ⟨dst, op, ty, pos, aft, some (j, true)⟩ ⟨.det (gv b v), acc⟩ := og1 hA hne hl hd fun hg => (h hg).step
end
end
end Go.Sx
namespace Go.Sx
open Go Go.RowKit
section
variable {P : Program} {w0 : World} {F : List (Nat × Value)}
theorem fa {s : TypeId} {fs : Array Field} {f : Nat} {fld : Field} {n b k k' : Nat} {x : Operand} (hu : ∀ w, (underlying s).run P w = .ok (.struct fs) w) (hf : fs[f]? = some fld) (hz : ∀ w, (sizeOf fld.type).run P w = .ok n w) (hn : Nat.beq n 0 = false)
    (hx : ev F x = some (ptr b k)) (hk : k + fld.offset = k') : Rd P w0 F [] (.fieldAddr s x f) (ptr b k') := eN hu hf hz (fun e => by rw [e] at hn; cases hn) hx hk
theorem fs {s : TypeId} {fs : Array Field} {f : Nat} {fld : Field} {n m k k' : Nat} {sv : Value} {x : Operand} (hu : ∀ w, (underlying s).run P w = .ok (.struct fs) w) (hf : fs[f]? = some fld) (hz : ∀ w, (sizeOf fld.type).run P w = .ok n w) (hn : Nat.beq n 0 = false)
    (hs : NN sv m) (hx : ev F x = some (sel sv k)) (hk : k + fld.offset = k') : Rd P w0 F [] (.fieldAddr s x f) (sel sv k') := r_faS hu hf hz (fun e => by rw [e] at hn; cases hn) hs hx hk
end
end Go.Sx
namespace Go.Sx
open Go Go.RowKit
section
variable {P : Program} {w0 w : World} {N : Nat} {F : List (Nat × Value)} {L : List Asn} {a : Act} {ops : Array Oper} {Q : Exit → Act → World → Prop} {d : Nat} {op : Op} {rest : List Oper}
theorem gK {j dj : Nat} {want c b g : Bool} {dd : Option Tmp} {ty : TypeId} {pos : String} {aft : Array Edge} (h : St w0 N F L a w) (hj : (ops[j]?).bind (·.dst) = some dj) (hl : look F dj = some (gv c (.bool b))) (hg : (c && (b == want)) = g) (hgt : g = true)
    (k : wpList P ops Q (⟨dd, op, ty, pos, aft, none⟩ :: rest) a w) : wpList P ops Q (⟨dd, op, ty, pos, aft, some (j, want)⟩ :: rest) a w := by
  have hw := l5 (o := ⟨dd, op, ty, pos, aft, some (j, want)⟩) rfl hj h hl
  rw [hg, hgt] at hw
  unfold wpList at k ⊢
  rw [hw]
  exact k
end
end Go.Sx
namespace Go.Sx
open Go Go.RowKit
def PV (w : World) (b : Nat) (cs : List Value) : Prop := ∃ e fr, w.heap[b]? = some (.cells cs.toArray e fr)
section
variable {P : Program} {w0 : World} {F : List (Nat × Value)} {L : List Asn}
theorem PV.below {w w' : World} {b : Nat} {cs : List Value} (h : PV w b cs) (hb : Below w.heap.size w w') : PV w' b cs := by
  obtain ⟨e, fr, h⟩ := h
  refine ⟨e, fr, ?_⟩
  rw [hb.block b (by rcases Nat.lt_or_ge b w.heap.size with h1 | h1; exact h1; simp [Array.getElem?_eq_none h1] at h)]
  exact h
theorem nK {w : World} {b : Nat} {cs : List Value} {e : TypeId} (hs : ∃ U, Sep w0.heap.size w L U) (i : Nat) (hi : L[i]? = some (Asn.blk b cs e)) : PV w b cs := by
  obtain ⟨U, hU⟩ := hs
  obtain ⟨f, ⟨_, hh⟩, _⟩ := hU.at hi
  exact ⟨e, _, hh⟩
theorem r_ldP {t : TypeId} {agg : Bool} {n b k : Nat} {cs : List Value} {x : Operand} {v : Value} (hp : PV w0 b cs) (ht : ∀ w, (isAgg t).run P w = .ok agg w) (hz : ∀ w, (sizeOf t).run P w = .ok n w) (hx : ev F x = some (ptr b k))
    (hn : Nat.blt 0 n = true) (hl : ((cs.drop k).take n).length = n) (hv : mkv agg ((cs.drop k).take n) = v) : Rd P w0 F [] (.load t x) v := by
  intro o a w U ho ha hb hs
  obtain ⟨e, fr, hh⟩ := hp.below hb
  have := ig (P := P) (g := b) (o := k) (w := w) ht hz hl (Nat.le_of_ble_eq_true hn) (fun j v hj => by
    have : w.cell? ⟨b, k + j, none⟩ = cs[k + j]? := by simp [World.cell?, hh]
    rw [this]; exact j9 hj)
  simp [execOp, ho, ha x _ hx, Instr.loadAt, Instr.sureAddr, ptr, this, hv]
end
end Go.Sx
namespace Go.Sx
open Go Go.RowKit
section
variable {P : Program} {w0 : World} {N : Nat} {F : List (Nat × Value)} {L : List Asn} {a : Act} {w : World} {ops : Array Oper} {Q : Exit → Act → World → Prop} {rest : List Oper}
  {d : Nat} {op : Op} {ty : TypeId} {pos : String} {aft : Array Edge}
theorem iD {c : Code} (n : Nat) (h : c.wp P (Exit.then (Code.rounds P c Q n) Q) a w) : (Code.loop c).wp P Q a w := wp_loop_rounds (n + 1) h
theorem fh {c : Code} {n : Nat} (h : c.wp P (Exit.then (Code.rounds P c Q n) Q) a w) : Exit.then (Code.rounds P c Q (n + 1)) Q .normal a w := h
theorem jq {A : List Asn} {φ : Value → Prop} {A' : Value → List Asn} (h : gP P w0 F A op φ A') : gP P w0 F (.emp :: A) op φ A' := by
  intro o a w U K Q ho ha hb hs k
  obtain ⟨f, V, hU, _, _, hf, hV⟩ := hs
  have e : U = V := funext fun k => propext ⟨fun hk => ((hU k).1 hk).elim (fun h => (hf k h).elim) id, fun hk => (hU k).2 (.inr hk)⟩
  subst e
  exact h o a w U K Q ho ha hb hV k
theorem lw {α : Type} [Cod α] {f : FuncId} {vs : List Value} {e : TypeId} {xs : List α} {p : Prop} (he : Ent P F op f vs) (ct : ∀ w, Below w0.heap.size w0 w → (∃ U, Sep w0.heap.size w L U) → Calls P f vs.toArray w (RetR w e xs p)) :
    gP P w0 F L op (fun v => SL v xs.length ∧ p) (fun v => Asn.row e v xs :: L) := l8 (A := fun v => [Asn.row e v xs]) he ct
def d4 (v : Value) : Prop := ∃ p l c, v = .slice p l c
theorem SL.is {v : Value} {n : Nat} (h : SL v n) : d4 v := by obtain ⟨b, c, rfl⟩ := h; exact ⟨_, _, _, rfl⟩
theorem s_slsl {t e : TypeId} {bytes : Nat} {x y : Operand} {u v : Value} (hT : SlT P t e 1 bytes [.slice none 0 0]) (hx : ev F x = some u) (hy : ev F y = some v) (hu : d4 u) (hv : d4 v) :
    gP P w0 F [] (.buildSlice t 2 #[(0, x), (1, y)]) (fun s => ∃ b, s = .slice (some ⟨b, 0, none⟩) 2 2) (fun s => match s with | .slice (some ⟨b, _, _⟩) _ _ => [Asn.blk b [u, v] e] | _ => []) := by
  obtain ⟨up, ul, uc, rfl⟩ := hu
  obtain ⟨vp, vl, vc, rfl⟩ := hv
  intro o a w U K Q ho ha hb hs k
  obtain ⟨ht, i, z, hi, hz, hzc, hsz, hby, hzl, hn, _⟩ := hT
  unfold Oper.wp
  have hz' : z.cells = #[.slice none 0 0] := by rw [← Array.toArray_toList (xs := z.cells), hzc]
  have hf : Instr.fill (fun i => some (i * 1, 1)) ((Array.range (2 * 1)).map fun j => (#[Value.slice none 0 0])[j % (#[Value.slice none 0 0]).size]!) [(0, .slice up ul uc), (1, .slice vp vl vc)] = some #[.slice up ul uc, .slice vp vl vc] := by
    have h0 : ((Array.range (2 * 1)).map fun j => (#[Value.slice none 0 0])[j % (#[Value.slice none 0 0]).size]!) = [Value.slice none 0 0, Value.slice none 0 0].toArray := by
      apply Array.ext
      · simp
      · intro i h1 h2
        have : i = 0 ∨ i = 1 := by simp at h2; omega
        rcases this with rfl | rfl <;> simp
    rw [h0]
    exact kF _ [(0, .slice up ul uc), (1, .slice vp vl vc)] [.slice none 0 0, .slice none 0 0] [.slice up ul uc, .slice vp vl vc] rfl
  have hr : (execOp a.eval o).run P w = .ok (.value (.slice (some ⟨w.heap.size, 0, none⟩) 2 2)) (w.alloc (.cells #[.slice up ul uc, .slice vp vl vc] e)) := by
    have n1 : ¬ (2 ^ 24 < 2 * 1) := by omega
    have n2 : ¬ (2 * 1 = 0) := by omega
    simp only [execOp, ho, Instr.buildSlice, Sem.run_bind, run_underlying ht, Result.andThen_ok, sizeOf, typeInfo, run_program, hi, Sem.run_pure, hsz, gt_iff_lt, n1, n2, if_false, zeroValue, hz, hz', List.map_toArray, List.map_cons, List.map_nil, ha x _ hx, ha y _ hy, hf, newRow, run_newObj]
    rfl
  rw [hr]
  refine k _ _ (fun k => k = w.heap.size) ⟨_, rfl⟩ ((fK w _).weak fun _ h => h.elim) ⟨fun k => k = w.heap.size, fun _ => False, fun k => by simp, fun _ _ => id, fun k hk => by simp only [hk, World.size_alloc]; have := hb.size; omega, ?_, fun _ => id⟩
  refine ⟨fun k => Iff.rfl, ?_⟩
  show (w.heap.push _)[w.heap.size]? = _; simp
theorem bsl (h : St w0 N F L a w) {t e : TypeId} {bytes : Nat} {x y : Operand} {u v : Value} (hT : SlT P t e 1 bytes [.slice none 0 0]) (hx : ev F x = some u) (hy : ev F y = some v) (hu : d4 u) (hv : d4 v) (hd : Nat.blt d N = true)
    (k : ∀ b a w, St w0 N ((d, .slice (some ⟨b, 0, none⟩) 2 2) :: F) (Asn.blk b [u, v] e :: L) a w → wpList P ops Q rest a w) : wpList P ops Q (⟨some d, .buildSlice t 2 #[(0, x), (1, y)], ty, pos, aft, none⟩ :: rest) a w :=
  nw h (s_slsl hT hx hy hu hv) hd fun s a w ⟨b, hb⟩ h => by subst hb; exact k b a w h
end
end Go.Sx
namespace Go.Sx
open Go Go.RowKit
structure Bd where
  at_ : GR
  behind : Bool
  deriving DecidableEq
def cW (x : Bd) : List Value := cR x.at_ ++ [.bool x.behind]
def vW (x : Bd) : Value := .agg (cW x).toArray
instance : Cod Bd := ⟨cW, 10, fun _ => rfl, fun x => fd (oneR _) (by simp [Value.oneCell']), by decide⟩
instance : Inhabited Bd := ⟨⟨default, false⟩⟩
def SzW (k : Nat) (x : Bd) : Prop := SzR k x.at_
theorem SzW_d (k : Nat) : SzW k default := SzR_d k
end Go.Sx
namespace Go.Sx
open Go Go.RowKit
structure Ev where
  at_ : Bd
  b0 : Int
  b1 : Int
  deriving DecidableEq
def cE (x : Ev) : List Value := cW x.at_ ++ [.int .i64 x.b0, .int .i64 x.b1]
def vE (x : Ev) : Value := .agg (cE x).toArray
theorem oneW (x : Bd) : ∀ c ∈ cW x, c.oneCell' = true := fd (oneR _) (by simp [Value.oneCell'])
instance : Cod Ev := ⟨cE, 12, fun _ => rfl, fun x => fd (oneW _) (by simp [Value.oneCell']), by decide⟩
instance : Inhabited Ev := ⟨⟨default, 0, 0⟩⟩
def SzE (k : Nat) (x : Ev) : Prop := SzW k x.at_
theorem gk (k : Nat) : SzE k default := SzW_d k
structure I2 where
  n0 : Int
  n1 : Int
  deriving DecidableEq
def cJ (x : I2) : List Value := [.int .i64 x.n0, .int .i64 x.n1]
instance : Cod I2 := ⟨cJ, 2, fun _ => rfl, fun x => by simp [cJ, Value.oneCell'], by decide⟩
instance : Inhabited I2 := ⟨⟨0, 0⟩⟩
end Go.Sx
