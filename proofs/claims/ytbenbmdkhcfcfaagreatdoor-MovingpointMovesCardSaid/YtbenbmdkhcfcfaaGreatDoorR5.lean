/- A part of the proof of movingpointMoves. -/
import Derived.RangeFuncRecord
import Derived.Test.YtbenbmdkhcfcfaaGreatDoorR4
import Derived.Test.YtbenbmdkhcfcfaaGreatDoorR2
set_option linter.unusedVariables false
set_option linter.unusedSimpArgs false
open Go.Proofs.Tryz renaming runUnderlying29 → uu29, runUnderlying31 → uu31, runUnderlying88 → uu88, runUnderlying247 → uu247, zeroValue29 → vv29, zeroValue31 → vv31, zeroValue88 → vv88, zeroValue247 → vv247
namespace Go.Sx
open Go Go.RowKit
def Asn.obj (b : Nat) (o : Obj) : Asn := ⟨fun w f => (∀ k, f k ↔ k = b) ∧ w.heap[b]? = some o, fun h ⟨h1, h2⟩ => ⟨h1, by rw [h _ ((h1 _).2 rfl)]; exact h2⟩⟩
section
variable {P : Program} {w0 : World} {N : Nat} {F : List (Nat × Value)} {L : List Asn} {a : Act} {w : World} {ops : Array Oper} {Q : Exit → Act → World → Prop} {rest : List Oper}
theorem qm {lo b : Nat} {o : Obj} {U : Fp} (h : Sep lo w (.obj b o :: L) U) : w.heap[b]? = some o ∧ lo ≤ b ∧ b < w.heap.size := by
  obtain ⟨f, V, _, _, hf, ⟨h1, h2⟩, _⟩ := h
  exact ⟨h2, hf b ((h1 b).2 rfl)⟩
theorem o6 {lo b : Nat} {o o' : Obj} {U : Fp} (h : Sep lo w (.obj b o :: L) U) : Sep lo (w.putObj b o') (.obj b o' :: L) U := by
  obtain ⟨f, V, hU, hd, hf, ⟨h1, h2⟩, hs⟩ := h
  refine ⟨f, V, hU, hd, fun k hk => ⟨(hf k hk).1, by rw [World.putObj_size]; exact (hf k hk).2⟩, ⟨h1, World.putObj_heap_same (hf b ((h1 b).2 rfl)).2⟩, hs.keep (by simp) fun k hk => World.putObj_heap_other fun e => hd k ((h1 k).2 e) hk⟩
theorem lH {b : Nat} {o' : Obj} (h : Below w0.heap.size w0 w) (hb : w0.heap.size ≤ b) : Below w0.heap.size w0 (w.putObj b o') :=
  ⟨h.os, h.tape, h.output, by rw [World.putObj_size]; exact h.size, fun k hk => by rw [World.putObj_heap_other (by omega)]; exact h.block k hk, h.drawn⟩
theorem qn {lo : Nat} {U : Fp} (hlo : lo ≤ w.heap.size) (o : Obj) (h : Sep lo w L U) : Sep lo (w.alloc o) (.obj w.heap.size o :: L) (fun k => k = w.heap.size ∨ U k) :=
  ⟨fun k => k = w.heap.size, U, fun _ => Iff.rfl, fun k hk hu => by have := (h.range k hu).2; omega, fun k hk => by subst hk; exact ⟨hlo, by simp⟩, ⟨fun _ => Iff.rfl, World.alloc_heap_new w o⟩,
    h.keep (by simp) fun k hk => by
      have := (h.range k hk).2
      show (w.heap.push o)[k]? = _
      rw [Array.getElem?_push_lt this]; exact (Array.getElem?_eq_getElem this).symm⟩
theorem nq (o : Obj) (h : Below w0.heap.size w0 w) : Below w0.heap.size w0 (w.alloc o) :=
  ⟨h.os, h.tape, h.output, by rw [World.size_alloc]; have := h.size; omega, fun k hk => by
    have := h.size
    rw [← h.block k hk]
    show (w.heap.push o)[k]? = _
    rw [Array.getElem?_push_lt (by omega)]; exact (Array.getElem?_eq_getElem (by omega)).symm, h.drawn⟩
def Rnd (P : Program) (w0 : World) (l : Nat) (args : Array Value) (J J' : Asn) : Prop :=
  ∀ w B, Below w0.heap.size w0 w → (∃ U, Sep w0.heap.size w [J, B] U) → YieldAt' P l args w fun e w' => e = .returned (.bool true) ∧ Below w0.heap.size w0 w' ∧ ∃ U, Sep w0.heap.size w' [J', B] U
where YieldAt' (P : Program) (l : Nat) (args : Array Value) (W : World) (R : Ending → World → Prop) : Prop :=
  ∃ fn tmps assign body, (Instr.yield l args).run P W = .ok (.round l fn tmps assign body) W ∧ RoundIn Fence.wide 0 P l fn tmps assign body W R
theorem oN {l : Nat} {x : Operand} {args : Array Operand} {ats : Array TypeId} {vs : List Value} {r : Result Next} (hx : ev F x = some (.func (.yield l) #[] #[])) (ha : evs F args.toList = some vs) {o : Oper} (ho : o.op = .call ⟨.value x, args, ats⟩) (hg : Agr F a) (w : World)
    (hr : (Instr.yield l vs.toArray).run P w = r) : (execOp a.eval o).run P w = r := by
  have hm : args.map a.eval = vs.toArray := by
    have := hg.evs ha
    rw [← this, ← Array.toList_map, Array.toArray_toList]
  simp [execOp, ho, resolve, Deferred.ofValue, hm, hg x _ hx, invoke, hr]
def StepBY (P : Program) (w0 : World) (F : List (Nat × Value)) (L : List Asn) (op : Op) (φ : Value → Prop) (L' : Value → List Asn) : Prop :=
  ∀ (o : Oper) (a : Act) (w : World) (B : Asn) (K : Act → World → Prop) (Q : Exit → Act → World → Prop), o.op = op → Agr F a → Below w0.heap.size w0 w → (∃ U, Sep w0.heap.size w (L ++ [B]) U) →
    (∀ v w', φ v → Below w0.heap.size w0 w' → (∃ U', Sep w0.heap.size w' (L' v ++ [B]) U') → K (a.put o.dst v) w') → Oper.wpY P o a w K Q
theorem StepBY.step {φ : Value → Prop} {op : Op} {L' : Value → List Asn} (h : StepBY P w0 F L op φ L') : sj P w0 F L op φ L' := by
  intro o a w U K Q ho ha hb hs k
  have hB : Sep w0.heap.size w [Asn.others w0.heap.size w U] (fun k => w0.heap.size ≤ k ∧ k < w.heap.size ∧ ¬ U k) :=
    ⟨fun k => w0.heap.size ≤ k ∧ k < w.heap.size ∧ ¬ U k, fun _ => False, fun k => by simp, fun _ _ => id, fun k hk => ⟨hk.1, hk.2.1⟩, ⟨fun _ => Iff.rfl, fun _ _ => rfl⟩, fun _ => id⟩
  refine h o a w _ K Q ho ha hb ⟨_, hs.append hB fun k hk hn => hn.2.2 hk⟩ fun v w' hv hb' ⟨U', hU'⟩ => ?_
  obtain ⟨V, W, hV, hW, hVW, _⟩ := hU'.split
  obtain ⟨f, X, hWf, _, hfr, ⟨hf, hfe⟩, hX⟩ := hW
  have hWk : ∀ k, w0.heap.size ≤ k → k < w.heap.size → ¬ U k → W k := fun k h1 h2 h3 => (hWf k).2 (.inl ((hf k).2 ⟨h1, h2, h3⟩))
  refine k v w' V hv ⟨hb'.os.trans hb.os.symm, hb'.tape.trans hb.tape.symm, hb'.output.trans hb.output.symm, fun n hn hU => ?_, fun k hk hu => ?_, fun k hk => ?_, fun _ => hb'.drawn⟩ hV
  · rcases Nat.lt_or_ge w0.heap.size n with hlt | hge
    · have h1 : f (n - 1) := (hf _).2 ⟨by omega, by omega, fun hu => by have := hU _ hu; omega⟩
      have := (hfr _ h1).2
      omega
    · exact Nat.le_trans hge hb'.size
  · rcases Nat.lt_or_ge k w0.heap.size with hlt | hge
    · rw [hb'.block k hlt, hb.block k hlt]
    · exact hfe k ((hf k).2 ⟨hge, hk, hu⟩)
  · rcases Nat.lt_or_ge k w.heap.size with hlt | hge
    · refine .inl (Classical.byContradiction fun hu => hVW k hk (hWk k (hV.range k hk).1 hlt hu))
    · exact .inr hge
theorem y_yield {l : Nat} {x : Operand} {args : Array Operand} {ats : Array TypeId} {vs : List Value} {J J' : Asn} (hx : ev F x = some (.func (.yield l) #[] #[])) (ha : evs F args.toList = some vs) (hY : Rnd P w0 l vs.toArray J J') :
    sj P w0 F [J] (.call ⟨.value x, args, ats⟩) (· = .bool true) (fun _ => [J']) :=
  StepBY.step fun o a w B K Q ho hg hb hs k => by
    obtain ⟨f, ts, b, c, hr, hc⟩ := hY w B hb hs
    refine .inr ⟨l, f, ts, b, c, oN hx ha ho hg w hr, RoundIn.mono hc ?_⟩
    rintro e w' ⟨rfl, hb', hs'⟩
    exact ⟨_, rfl, k _ w' rfl hb' hs'⟩
theorem ob_yu {H : List Hist} {i : Nat} {ξ : Nat → Value} {G : (Nat → Value) → List (Nat × Value)} {op : Op} {ty : TypeId} {pos : String} {aft : Array Edge} {dst : Option Tmp} {acc : List Nat} {ol : List Oper} {v : Value} (A A' : List Asn) (hA : cA H acc i ξ = A) (hA' : cA H acc (i + 1) (upd ξ i v) = A') (h : sj P w0 (fI (G ξ) (eh op)) A op (· = v) (fun _ => A')) : ObS P w0 ol H G ξ i ⟨dst, op, ty, pos, aft, none⟩ ⟨.det v, acc⟩ := by
  intro o a w U K Q ho ha hb hs k
  have hs1 : Sep w0.heap.size w (cA H acc i ξ) U := hs
  rw [hA] at hs1
  refine h o a w U K Q ho ha hb hs1 fun v' w' U' hv hm hs' => ?_
  subst hv
  refine k _ w' U' (bn _ _ _) hm ?_
  show Sep w0.heap.size w' (cA H acc (i + 1) (upd ξ i v')) U'
  rw [hA']
  exact hs'
theorem rT {ro : Option Nat} {n : Nat} (hQ : ∀ a w, ¬ Q .outgrown a w) : ∀ {l : List Oper} {a : Act} {w : World}, qp l = true → wpList P ops Q l a w → wpListIn (rf ro) n P ops Q l a w
  | [], _, _, _, h => h
  | o :: l, a, w, hn, h => by
    have hn' : qp l = true := by unfold qp at hn ⊢; rw [List.all_cons, Bool.and_eq_true] at hn; exact hn.2
    have mono : ∀ {K K' : Act → World → Prop}, (∀ a w, K a w → K' a w) → o.wpIn (rf ro) n P a w K Q → o.wpIn (rf ro) n P a w K' Q := fun hk hh => Oper.wpIn_mono hk hh
    unfold wpList at h
    unfold wpListIn
    split
    · rename_i hw
      rw [if_pos hw] at h
      rcases h with h | ⟨_, h⟩
      · exact mono (fun a w h => rT hQ hn' h) (op_in (.inr (sM hn (List.mem_cons_self ..))) (.inl h))
      · obtain ⟨a', w', h⟩ := h
        exact absurd h (hQ a' w')
    · rename_i hw
      rw [if_neg hw] at h
      exact ⟨fun _ _ => trivial, rT hQ hn' h⟩
theorem vk {ro : Option Nat} {n : Nat} {id : Nat} {l : List Oper} (hQ : ∀ a w, ¬ Q .outgrown a w) (hn : qp l = true) (h : wpList P l.toArray Q l a w) : (Code.region id l.toArray false).wpIn (rf ro) n P Q a w :=
  wpIn_region_lit (rT hQ hn h)
theorem seq_in {ro : Option Nat} {n : Nat} {x y : Code} (M : Act → World → Prop) (h : x.wpIn (rf ro) n P (Exit.then M Q) a w) (k : ∀ a w, M a w → y.wpIn (rf ro) n P Q a w) : (Code.seq x y).wpIn (rf ro) n P Q a w := by
  refine wpIn_seq (wpIn_mono h fun e a w he => ?_)
  cases e <;> first | exact k _ _ he | exact he
def Asn.ex (A : Value → Asn) : Asn := ⟨fun w f => ∃ v, (A v).sem w f, fun h ⟨v, hv⟩ => ⟨v, (A v).loc h hv⟩⟩
def JE (lo : Nat) (l : Nat) (r : Loop) (A : Value → List Asn) : Asn := .ex fun v => .all lo (.obj l (.loop r) :: A v)
theorem je_open {lo l : Nat} {r : Loop} {A : Value → List Asn} {B : Asn} (h : ∃ U, Sep lo w [JE lo l r A, B] U) : ∃ v U, Sep lo w (.obj l (.loop r) :: (A v ++ [B])) U := by
  obtain ⟨U, f, V, hU, hd, hf, ⟨v, hv⟩, hs⟩ := h
  have hv : Sep lo w (.obj l (.loop r) :: A v) f := hv
  exact ⟨v, _, hv.append hs hd⟩
theorem je_close {lo l : Nat} {r : Loop} {A : Value → List Asn} {B : Asn} {v : Value} {U : Fp} (h : Sep lo w (.obj l (.loop r) :: (A v ++ [B])) U) : ∃ U, Sep lo w [JE lo l r A, B] U := by
  obtain ⟨V, W, hV, hW, hVW, hU⟩ := Sep.split (A := .obj l (.loop r) :: A v) h
  exact ⟨U, V, W, hU, hVW, hV.range, ⟨v, hV⟩, hW⟩
theorem rnd {l fn D : Nat} {args tmps : Array Value} {ps : Array Tmp} {asg body : Code} {A A' : Value → List Asn} {F0 : List (Nat × Value)} (hps : args.size = ps.size)
    (hz : ((ps.zip args).foldl (fun tmps (t, a) => tmps.setIfInBounds t a) tmps).size = N)
    (hF : ∀ t v, look F0 t = some v → ((ps.zip args).foldl (fun tmps (t, a) => tmps.setIfInBounds t a) tmps)[t]? = some v)
    (M : Value → List (Nat × Value) → List Asn → Prop)
    (ha : ∀ v a w Y1 Y2, St w0 N F0 (A v ++ [Y1, Y2]) a w → asg.wpIn (rf (some l)) 0 P (Exit.then (fun a w => ∃ F1 X, M v F1 X ∧ St w0 N F1 (X ++ [Y1, Y2]) a w) fun _ _ _ => False) a w)
    (hb : ∀ v F1 X, M v F1 X → ∀ a w Y1 Y2, St w0 N F1 (X ++ [Y1, Y2]) a w → body.wpIn (rf (some l)) 0 P (fun e _ w => e = .normal ∧ Below w0.heap.size w0 w ∧ ∃ v' Y U, Sep w0.heap.size w (A' v' ++ [Y1, Y2] ++ Y) U) a w) :
    Rnd P w0 l args (JE w0.heap.size l { state := .ready, pending := none, fn, tmps, params := ps, assign := asg, body, defers := D } A) (JE w0.heap.size l { state := .ready, pending := none, fn, tmps, params := ps, assign := asg, body, defers := D } A') := by
  intro w B hB hs
  obtain ⟨v, U, hU⟩ := je_open hs
  obtain ⟨hl, hlo, hhi⟩ := qm hU
  refine ⟨fn, _, asg, body, run_yield (P := P) (args := args) hl hps, roundIn_of_wpIn (F := Fence.wide) trivial ?_⟩
  have st : St w0 N F0 (A v ++ [.obj l (.loop { state := .ready, pending := none, fn, tmps, params := ps, assign := asg, body, defers := D }), B]) { tmps := (ps.zip args).foldl (fun tmps (t, a) => tmps.setIfInBounds t a) tmps, defers := [] } w :=
    ⟨hz, rfl, hF, hB, U, hU.perm (by
      have : (Asn.obj l (.loop { state := .ready, pending := none, fn, tmps, params := ps, assign := asg, body, defers := D }) :: (A v ++ [B])).Perm (A v ++ Asn.obj l (.loop { state := .ready, pending := none, fn, tmps, params := ps, assign := asg, body, defers := D }) :: [B]) := List.perm_middle.symm
      exact this)⟩
  refine wpIn_mono (ha v _ _ _ _ st) fun e a w he => ?_
  cases e with
  | normal =>
    obtain ⟨F1, X, hM, h⟩ := he
    obtain ⟨U1, hU1⟩ := h.sep
    have hU1 := hU1.perm (List.perm_middle (l₁ := X) (l₂ := [B]))
    obtain ⟨hl1, hlo1, _⟩ := qm hU1
    refine ⟨_, run_beginRound hl1 rfl, ?_⟩
    have hU2 := o6 (o' := .loop { state := .busy, pending := none, fn, tmps, params := ps, assign := asg, body, defers := D }) hU1
    refine wpIn_mono (hb v F1 X hM a _ (.obj l (.loop { state := .busy, pending := none, fn, tmps, params := ps, assign := asg, body, defers := D })) B ⟨h.size, h.defers, h.regs, lH h.bel hlo1, _, hU2.perm (List.perm_middle (l₁ := X) (l₂ := [B])).symm⟩) fun e a w he => ?_
    obtain ⟨rfl, hB3, v', Y, U3, hU3⟩ := he
    have hU3 := hU3.perm (show (A' v' ++ [Asn.obj l (.loop { state := .busy, pending := none, fn, tmps, params := ps, assign := asg, body, defers := D }), B] ++ Y).Perm (Asn.obj l (.loop { state := .busy, pending := none, fn, tmps, params := ps, assign := asg, body, defers := D }) :: (A' v' ++ [B]) ++ Y) by
      refine List.Perm.append_right _ ?_
      exact List.perm_middle)
    obtain ⟨V, W, hV, _, _, _⟩ := hU3.split
    obtain ⟨hl3, hlo3, _⟩ := qm hV
    refine ⟨_, _, run_endRound none hl3, rfl, lH hB3 hlo3, je_close (o6 (o' := .loop { state := .ready, pending := none, fn, tmps, params := ps, assign := asg, body, defers := D }) hV)⟩
  | _ => exact he.elim
theorem fold2 (p q : Nat) (x y : Value) (t : Array Value) : ((#[p, q].zip [x, y].toArray).foldl (fun tmps (t, a) => tmps.setIfInBounds t a) t) = (t.setIfInBounds p x).setIfInBounds q y := by simp
def nd (a : Act) : Act := { a with defers := [] }
theorem c_range {g : Operand} {ps : Array Tmp} {asg body : Code} {gf : FuncId} {lb : Array Value} {A : Nat → Value → List Asn} {v0 : Value} {R : List Asn} {args : Nat → Array Value} (n : Nat) (h : St w0 N F L a w)
    (hg : ev F g = some (.func (.func gf) #[] lb)) (eg : ∀ args w, (callFunc gf args).run P w = .ok (.enter gf args) w) (hL : L.Perm (A 0 v0 ++ R))
    (hit : ∀ (lr : Nat) (r : Loop) (w : World) (B : Asn), Below w0.heap.size w0 w → (∃ U, Sep w0.heap.size w (JE w0.heap.size lr r (A 0) :: (R ++ [B])) U) → (∀ k, k < n → Rnd P w0 lr (args k) (JE w0.heap.size lr r (A k)) (JE w0.heap.size lr r (A (k + 1)))) →
      Calls P gf (#[.func (.yield lr) #[] #[]] ++ lb) w (RetY w0 (fun _ => True) fun _ => JE w0.heap.size lr r (A n) :: (R ++ [B])))
    (hrnd : ∀ lr fn D k, k < n → Rnd P w0 lr (args k) (JE w0.heap.size lr { state := .ready, pending := none, fn, tmps := a.tmps, params := ps, assign := asg, body, defers := D } (A k)) (JE w0.heap.size lr { state := .ready, pending := none, fn, tmps := a.tmps, params := ps, assign := asg, body, defers := D } (A (k + 1))))
    (k : ∀ a' w' D v Y, a'.defers = [{ target := .collected D, args := #[] }] → St w0 N F (.obj D (.deferred (some [])) :: (A n v ++ R ++ Y)) (nd a') w' → Q .normal a' w') : (Code.rangeFunc g ps asg body).wp P Q a w := by
  refine wpIn_wide (n := 0).1 (wpIn_rangeFunc fun fn hfn => ?_)
  obtain ⟨U, hU⟩ := h.sep
  have hU := hU.perm hL
  have hsz := h.bel.size
  have s1 := qn hsz (.deferred (some [])) hU
  have b1 := nq (.deferred (some [])) h.bel
  have s2 := qn (w := w.alloc (.deferred (some []))) (by rw [World.size_alloc]; omega) (.loop { state := .ready, pending := none, fn, tmps := a.tmps, params := ps, assign := asg, body, defers := w.heap.size }) s1
  have b2 := nq (.loop { state := .ready, pending := none, fn, tmps := a.tmps, params := ps, assign := asg, body, defers := w.heap.size }) b1
  rw [World.size_alloc] at s2
  have hev : a.eval g = .func (.func gf) #[] lb := h.agr g _ hg
  obtain ⟨W1, hW1⟩ : ∃ W1, (w.alloc (.deferred (some []))).alloc (.loop { state := .ready, pending := none, fn, tmps := a.tmps, params := ps, assign := asg, body, defers := w.heap.size }) = W1 := ⟨_, rfl⟩
  rw [hW1] at s2 b2
  refine ⟨w.heap.size + 1, [{ target := .collected w.heap.size, args := #[] }], W1, { target := .fn (.func gf) lb, args := #[.func (.yield (w.heap.size + 1)) #[] #[]] }, W1, gf, #[.func (.yield (w.heap.size + 1)) #[] #[]] ++ lb, W1, by rw [← hW1]; exact run_enterLoop_outer _ _ _ _ _, ?_, fun _ _ => trivial, ?_, fun hn => (by cases hn), ?_⟩
  · simp only [resolve, hev]
    simp [go_sem]
  · simp [invoke, go_sem, eg]
  · refine callsIn_wide.2 ((hit (w.heap.size + 1) _ _ (.obj w.heap.size (.deferred (some []))) b2 ?_ (hrnd _ fn w.heap.size)).mono ?_)
    · have p : (Asn.obj (w.heap.size + 1) (.loop { state := .ready, pending := none, fn, tmps := a.tmps, params := ps, assign := asg, body, defers := w.heap.size }) :: Asn.obj w.heap.size (.deferred (some [])) :: (A 0 v0 ++ R)).Perm (Asn.obj (w.heap.size + 1) (.loop { state := .ready, pending := none, fn, tmps := a.tmps, params := ps, assign := asg, body, defers := w.heap.size }) :: A 0 v0 ++ (R ++ [Asn.obj w.heap.size (.deferred (some []))])) := by
        refine List.Perm.cons _ ?_
        show (Asn.obj w.heap.size (.deferred (some [])) :: (A 0 v0 ++ R)).Perm (A 0 v0 ++ (R ++ [Asn.obj w.heap.size (.deferred (some []))]))
        rw [← List.append_assoc]
        exact (List.perm_append_singleton _ _).symm
      obtain ⟨V, W, hV, hW, hVW, hU'⟩ := (s2.perm p).split
      exact ⟨_, V, W, hU', hVW, hV.range, ⟨v0, hV⟩, hW⟩
    · rintro e w' ⟨v, rfl, _, hb', U', f, V, hU', hd, hf, ⟨v', hv'⟩, hs'⟩
      have hv' : Sep w0.heap.size w' (.obj (w.heap.size + 1) (.loop { state := .ready, pending := none, fn, tmps := a.tmps, params := ps, assign := asg, body, defers := w.heap.size }) :: A n v') f := hv'
      have hall := hv'.append hs' hd
      obtain ⟨hl, hlo, _⟩ := qm hall
      refine ⟨none, _, run_endLoop hl (by simp), ?_⟩
      have hall2 := o6 (o' := .loop { state := .exhausted, pending := none, fn, tmps := a.tmps, params := ps, assign := asg, body, defers := w.heap.size }) hall
      refine k _ _ w.heap.size v' [.obj (w.heap.size + 1) (.loop { state := .exhausted, pending := none, fn, tmps := a.tmps, params := ps, assign := asg, body, defers := w.heap.size })] (by show _ ++ a.defers = _; rw [h.defers]; rfl) ⟨h.size, rfl, h.regs, lH hb' hlo, _, hall2.perm ?_⟩
      show (Asn.obj (w.heap.size + 1) _ :: (A n v' ++ (R ++ [Asn.obj w.heap.size (.deferred (some []))]))).Perm (Asn.obj w.heap.size (.deferred (some [])) :: (A n v' ++ R ++ [_]))
      rw [← List.append_assoc (A n v')]
      refine (List.Perm.cons _ (List.perm_append_singleton _ _)).trans ((List.Perm.swap _ _ _).trans (List.Perm.cons _ (List.perm_append_singleton _ _).symm))
theorem enterM {f : FuncId} {fn : Func} {c : Code} {args : List Value} {R : Ending → World → Prop} (hf : P.funcs[f]? = some fn) (hb : fn.body = some c) (hN : args.length + (fn.ntmps - args.length) = N)
    (h : ∀ a, St w N (zipF 0 args) [] a w → c.wp P (bodyPostM Fence.wide 0 P fn R) a w) : Calls P f args.toArray w R :=
  callsIn_wide.1 (callsIn_of_wp_marks (n := 0) hf hb trivial (wpIn_wide.2 (h _ (St.init w args fn.ntmps hN fun _ _ hv => (j0 hv).2))))
theorem rdM {d : Nat} {op : Op} {ty : TypeId} {pos : String} {aft : Array Edge} (h : St w0 N F L (nd a) w) (i : Nat) {r : Asn} {v : Value} (hi : L[i]? = some r) (hs : Rd P w0 F [r] op v) (hd : Nat.blt d N = true) (k : ∀ a' w, a'.defers = a.defers → St w0 N ((d, v) :: F) L (nd a') w → wpList P ops Q rest a' w) :
    wpList P ops Q (⟨some d, op, ty, pos, aft, none⟩ :: rest) a w :=
  wpList_plain rfl fun K hK => by
    obtain ⟨U, hU⟩ := h.sep
    have e : a.eval = (nd a).eval := rfl
    unfold Oper.wp
    rw [e, (hs.of_mem hi) _ (nd a) w U rfl h.agr h.bel hU]
    exact hK _ _ (k _ _ rfl (h.put hd v h.bel hU))
theorem retM {fn : Func} {R : Ending → World → Prop} {D : Nat} {rs : List ResultVar} {vs : List Value} {v : Value} (hd : a.defers = [{ target := .collected D, args := #[] }]) (h : St w0 N F (.obj D (.deferred (some [])) :: L) (nd a) w) (hrs : fn.results = rs.toArray)
    (hr : ∀ w, Res P w F (.obj D (.deferred none) :: L) rs vs) (hv : rn vs = v) (hR : ∀ w, St w0 N F (.obj D (.deferred none) :: L) (nd a) w → R (.returned v) w) : bodyPostM Fence.wide 0 P fn R .ret a w := by
  show LeavesInM Fence.wide 0 P fn a.tmps R a.defers .returning w
  obtain ⟨U, hU⟩ := h.sep
  obtain ⟨hl, hlo, _⟩ := qm hU
  rw [hd]
  have st : St w0 N F (.obj D (.deferred none) :: L) (nd a) (w.putObj D (.deferred none)) := ⟨h.size, h.defers, h.regs, lH h.bel hlo, _, o6 hU⟩
  refine ⟨by simp, .inl ⟨D, _, rfl, run_takeDeferred hl, ?_⟩⟩
  exact ⟨v, kC hrs (hr _) st hv, hR _ st⟩
end
end Go.Sx
namespace Go.Sx
open Go Go.RowKit Go.Proofs
set_option maxRecDepth 100000
structure Pnt where
  x : GQ
  y : GQ
  deriving DecidableEq
structure Smp where
  t : GQ
  p : Pnt
  deriving DecidableEq
structure RPt where
  x : GR
  y : GR
  deriving DecidableEq
def cPt (x : Pnt) : List Value := cQ x.x ++ cQ x.y
def cSm (x : Smp) : List Value := cQ x.t ++ cPt x.p
def cRP (x : RPt) : List Value := cR x.x ++ cR x.y
def vPt (x : Pnt) : Value := .agg (cPt x).toArray
def vSm (x : Smp) : Value := .agg (cSm x).toArray
def vRP (x : RPt) : Value := .agg (cRP x).toArray
instance yR5_1 : Inhabited Pnt := ⟨⟨oQ, oQ⟩⟩
instance yR5_2 : Inhabited Smp := ⟨⟨oQ, ⟨oQ, oQ⟩⟩⟩
theorem onePt (x : Pnt) : ∀ c ∈ cPt x, c.oneCell' = true := eB (tW _) (tW _)
instance yR5_3 : Cod Pnt := ⟨cPt, 8, fun _ => rfl, onePt, by decide⟩
instance yR5_4 : Cod Smp := ⟨cSm, 12, fun _ => rfl, fun x => eB (tW _) (onePt _), by decide⟩
instance yR5_5 : Cod RPt := ⟨cRP, 18, fun _ => rfl, fun x => eB (tV _) (tV _), by decide⟩
instance yR5_6 (x : Pnt) : Cel (vPt x) (cPt x) := ⟨rfl⟩
instance yR5_7 (x : Smp) : Cel (vSm x) (cSm x) := ⟨rfl⟩
instance yR5_8 (x : RPt) : Cel (vRP x) (cRP x) := ⟨rfl⟩
instance yR5_9 (x : Pnt) : Dc (cPt x) (vPt x) := ⟨rfl⟩
instance yR5_10 (x : Smp) : Dc (cSm x) (vSm x) := ⟨rfl⟩
instance yR5_11 (x : RPt) : Dc (cRP x) (vRP x) := ⟨rfl⟩
def SzPt (k : Nat) (x : Pnt) : Prop := SzQ k x.x ∧ SzQ k x.y
def ux (k : Nat) (x : Smp) : Prop := SzQ k x.t ∧ SzPt k x.p
instance yR5_12 : Sz Tryz.prog 29 8 := ⟨Tryz.sizeOf29⟩
instance yR5_13 : Sz Tryz.prog 31 12 := ⟨Tryz.sizeOf31⟩
instance yR5_14 : Sz Tryz.prog 88 36 := ⟨Tryz.sizeOf88⟩
instance yR5_15 : Sz Tryz.prog 247 18 := ⟨Tryz.sizeOf247⟩
instance yR5_16 : Sz Tryz.prog 66 1 := ⟨Tryz.sizeOf66⟩
instance yR5_17 : Ag Tryz.prog 66 false := ⟨Tryz.isAgg66⟩
instance yR5_18 : Sz Tryz.prog 33 1 := ⟨Tryz.sizeOf33⟩
instance yR5_19 : Ag Tryz.prog 33 false := ⟨Tryz.isAgg33⟩
instance yR5_20 : Sz Tryz.prog 23 1 := ⟨Tryz.sizeOf23⟩
instance yR5_21 : Ag Tryz.prog 23 false := ⟨Tryz.isAgg23⟩
instance yR5_22 : Ag Tryz.prog 29 true := ⟨Tryz.isAgg29⟩
instance yR5_23 : Ag Tryz.prog 31 true := ⟨Tryz.isAgg31⟩
instance yR5_24 : Ag Tryz.prog 88 true := ⟨Tryz.isAgg88⟩
instance yR5_25 : Ag Tryz.prog 247 true := ⟨Tryz.isAgg247⟩
instance yR5_26 : Un Tryz.prog 23 (.slice 31) := ⟨Tryz.runUnderlying23⟩
instance yR5_27 : Un Tryz.prog 33 (.slice 88) := ⟨Tryz.runUnderlying33⟩
instance yR5_28 : Fl Tryz.prog 29 0 27 0 := ⟨⟨_, _, uu29, rfl, rfl, rfl⟩⟩
instance yR5_29 : Fl Tryz.prog 29 1 27 4 := ⟨⟨_, _, uu29, rfl, rfl, rfl⟩⟩
instance yR5_30 : Fl Tryz.prog 31 0 27 0 := ⟨⟨_, _, uu31, rfl, rfl, rfl⟩⟩
instance yR5_31 : Fl Tryz.prog 31 1 29 4 := ⟨⟨_, _, uu31, rfl, rfl, rfl⟩⟩
instance yR5_32 : Fl Tryz.prog 88 0 86 0 := ⟨⟨_, _, uu88, rfl, rfl, rfl⟩⟩
instance yR5_33 : Fl Tryz.prog 88 1 79 20 := ⟨⟨_, _, uu88, rfl, rfl, rfl⟩⟩
instance yR5_34 : Fl Tryz.prog 247 0 71 0 := ⟨⟨_, _, uu247, rfl, rfl, rfl⟩⟩
instance yR5_35 : Fl Tryz.prog 247 1 71 9 := ⟨⟨_, _, uu247, rfl, rfl, rfl⟩⟩
instance yR5_36 : Cf Tryz.prog 3 := ⟨Tryz.call3⟩
instance yR5_37 : Cf Tryz.prog 4 := ⟨Tryz.call4⟩
instance yR5_38 : Cf Tryz.prog 6 := ⟨Tryz.call6⟩
instance yR5_39 : Cf Tryz.prog 7 := ⟨Tryz.call7⟩
instance yR5_40 : Cf Tryz.prog 9 := ⟨Tryz.call9⟩
instance yR5_41 : Cf Tryz.prog 10 := ⟨Tryz.call10⟩
instance yR5_42 : Cf Tryz.prog 13 := ⟨Tryz.call13⟩
instance yR5_43 : Cf Tryz.prog 14 := ⟨Tryz.call14⟩
instance yR5_44 : Cf Tryz.prog 15 := ⟨Tryz.call15⟩
instance yR5_45 : Cf Tryz.prog 16 := ⟨Tryz.call16⟩
instance yR5_46 : Cf Tryz.prog 17 := ⟨Tryz.call17⟩
instance yR5_47 : Cf Tryz.prog 18 := ⟨Tryz.call18⟩
instance yR5_48 : Cf Tryz.prog 19 := ⟨Tryz.call19⟩
instance yR5_49 : Cf Tryz.prog 23 := ⟨Tryz.call23⟩
instance yR5_50 : Cf Tryz.prog 40 := ⟨Tryz.call40⟩
instance yR5_51 : Cf Tryz.prog 41 := ⟨Tryz.call41⟩
instance yR5_52 : Cf Tryz.prog 42 := ⟨Tryz.call42⟩
instance yR5_53 : Cf Tryz.prog 43 := ⟨Tryz.call43⟩
instance yR5_54 : Cf Tryz.prog 45 := ⟨Tryz.call45⟩
instance yR5_55 : Cf Tryz.prog 46 := ⟨Tryz.call46⟩
instance yR5_56 : Cf Tryz.prog 47 := ⟨Tryz.call47⟩
instance yR5_57 : Cf Tryz.prog 48 := ⟨Tryz.call48⟩
instance yR5_58 : Cf Tryz.prog 49 := ⟨Tryz.call49⟩
instance yR5_59 : Cf Tryz.prog 50 := ⟨Tryz.call50⟩
instance yR5_60 : Cf Tryz.prog 51 := ⟨Tryz.call51⟩
instance yR5_61 : Cf Tryz.prog 52 := ⟨Tryz.call52⟩
instance yR5_62 : Cf Tryz.prog 53 := ⟨Tryz.call53⟩
instance yR5_63 : Cf Tryz.prog 54 := ⟨Tryz.call54⟩
instance yR5_64 : Cf Tryz.prog 64 := ⟨Tryz.call64⟩
instance yR5_65 : Cf Tryz.prog 65 := ⟨Tryz.call65⟩
instance yR5_66 : Cf Tryz.prog 66 := ⟨Tryz.call66⟩
instance yR5_67 : Cf Tryz.prog 67 := ⟨Tryz.call67⟩
instance yR5_68 : Cf Tryz.prog 68 := ⟨Tryz.call68⟩
instance yR5_69 : Cf Tryz.prog 69 := ⟨Tryz.call69⟩
instance yR5_70 : Cf Tryz.prog 70 := ⟨Tryz.call70⟩
instance yR5_71 : Cf Tryz.prog 71 := ⟨Tryz.call71⟩
instance yR5_72 : Cf Tryz.prog 72 := ⟨Tryz.call72⟩
instance yR5_73 : Cf Tryz.prog 73 := ⟨Tryz.call73⟩
instance yR5_74 : Cf Tryz.prog 74 := ⟨Tryz.call74⟩
instance yR5_75 : Cf Tryz.prog 78 := ⟨Tryz.call78⟩
instance yR5_76 : Cf Tryz.prog 79 := ⟨Tryz.call79⟩
instance yR5_77 : Cf Tryz.prog 80 := ⟨Tryz.call80⟩
instance yR5_78 : Cf Tryz.prog 81 := ⟨Tryz.call81⟩
instance yR5_79 : Cf Tryz.prog 82 := ⟨Tryz.call82⟩
instance yR5_80 : Cf Tryz.prog 83 := ⟨Tryz.call83⟩
instance yR5_81 : Cf Tryz.prog 84 := ⟨Tryz.call84⟩
instance yR5_82 : Cf Tryz.prog 89 := ⟨Tryz.call89⟩
instance yR5_83 : Cf Tryz.prog 90 := ⟨Tryz.call90⟩
instance yR5_84 : Cf Tryz.prog 91 := ⟨Tryz.call91⟩
instance yR5_85 : Cf Tryz.prog 99 := ⟨Tryz.call99⟩
instance yR5_86 : Cf Tryz.prog 100 := ⟨Tryz.call100⟩
instance yR5_87 : Cf Tryz.prog 102 := ⟨Tryz.call102⟩
instance yR5_88 : Cf Tryz.prog 103 := ⟨Tryz.call103⟩
instance yR5_89 : Cf Tryz.prog 132 := ⟨Tryz.call132⟩
instance yR5_90 : Cf Tryz.prog 133 := ⟨Tryz.call133⟩
instance yR5_91 : Cf Tryz.prog 138 := ⟨Tryz.call138⟩
instance yR5_92 : Cf Tryz.prog 139 := ⟨Tryz.call139⟩
instance yR5_93 : Cf Tryz.prog 140 := ⟨Tryz.call140⟩
instance yR5_94 : Cf Tryz.prog 141 := ⟨Tryz.call141⟩
instance yR5_95 : Cf Tryz.prog 142 := ⟨Tryz.call142⟩
instance yR5_96 : Cf Tryz.prog 143 := ⟨Tryz.call143⟩
instance yR5_97 : Cf Tryz.prog 144 := ⟨Tryz.call144⟩
instance yR5_98 : Cf Tryz.prog 145 := ⟨Tryz.call145⟩
instance yR5_99 : Cf Tryz.prog 146 := ⟨Tryz.call146⟩
instance yR5_100 : Cf Tryz.prog 147 := ⟨Tryz.call147⟩
instance yR5_101 : Cf Tryz.prog 162 := ⟨Tryz.call162⟩
instance yR5_102 : Cf Tryz.prog 163 := ⟨Tryz.call163⟩
instance yR5_103 : Cf Tryz.prog 164 := ⟨Tryz.call164⟩
instance yR5_104 : Cf Tryz.prog 165 := ⟨Tryz.call165⟩
instance yR5_105 : Cf Tryz.prog 166 := ⟨Tryz.call166⟩
instance yR5_106 : Cf Tryz.prog 167 := ⟨Tryz.call167⟩
instance yR5_107 : Cf Tryz.prog 168 := ⟨Tryz.call168⟩
instance yR5_108 : Cf Tryz.prog 169 := ⟨Tryz.call169⟩
instance yR5_109 : Cf Tryz.prog 170 := ⟨Tryz.call170⟩
instance yR5_110 : Cf Tryz.prog 171 := ⟨Tryz.call171⟩
instance yR5_111 : Cf Tryz.prog 172 := ⟨Tryz.call172⟩
instance yR5_112 : Cf Tryz.prog 173 := ⟨Tryz.call173⟩
instance yR5_113 : Cf Tryz.prog 174 := ⟨Tryz.call174⟩
instance yR5_114 : Cf Tryz.prog 175 := ⟨Tryz.call175⟩
instance yR5_115 : Cf Tryz.prog 176 := ⟨Tryz.call176⟩
instance yR5_116 : Cf Tryz.prog 177 := ⟨Tryz.call177⟩
instance yR5_117 : Cf Tryz.prog 182 := ⟨Tryz.call182⟩
instance yR5_118 : Cf Tryz.prog 183 := ⟨Tryz.call183⟩
instance yR5_119 : Cf Tryz.prog 184 := ⟨Tryz.call184⟩
instance yR5_120 : Cf Tryz.prog 185 := ⟨Tryz.call185⟩
instance yR5_121 : Cf Tryz.prog 186 := ⟨Tryz.call186⟩
instance yR5_122 : Cf Tryz.prog 188 := ⟨Tryz.call188⟩
instance yR5_123 : Cf Tryz.prog 189 := ⟨Tryz.call189⟩
instance yR5_124 : Cf Tryz.prog 197 := ⟨Tryz.call197⟩
instance yR5_125 : Cf Tryz.prog 198 := ⟨Tryz.call198⟩
instance yR5_126 : Cf Tryz.prog 199 := ⟨Tryz.call199⟩
instance yR5_127 : Cf Tryz.prog 200 := ⟨Tryz.call200⟩
instance yR5_128 : Cf Tryz.prog 217 := ⟨Tryz.call217⟩
instance yR5_129 : Cf Tryz.prog 218 := ⟨Tryz.call218⟩
instance yR5_130 : Cf Tryz.prog 220 := ⟨Tryz.call220⟩
instance yR5_131 : Cf Tryz.prog 221 := ⟨Tryz.call221⟩
instance yR5_132 : Cf Tryz.prog 222 := ⟨Tryz.call222⟩
instance yR5_133 : Cf Tryz.prog 233 := ⟨Tryz.call233⟩
instance yR5_134 : Cf Tryz.prog 234 := ⟨Tryz.call234⟩
instance yR5_135 : Cf Tryz.prog 235 := ⟨Tryz.call235⟩
instance yR5_136 : Cf Tryz.prog 236 := ⟨Tryz.call236⟩
instance yR5_137 : Cf Tryz.prog 237 := ⟨Tryz.call237⟩
instance yR5_138 : Cf Tryz.prog 238 := ⟨Tryz.call238⟩
instance yR5_139 : Cf Tryz.prog 239 := ⟨Tryz.call239⟩
instance yR5_140 : Cf Tryz.prog 240 := ⟨Tryz.call240⟩
instance yR5_141 : Cf Tryz.prog 241 := ⟨Tryz.call241⟩
instance yR5_142 : Cf Tryz.prog 242 := ⟨Tryz.call242⟩
instance yR5_143 : Cf Tryz.prog 248 := ⟨Tryz.call248⟩
instance yR5_144 : Cf Tryz.prog 254 := ⟨Tryz.call254⟩
instance yR5_145 : Cf Tryz.prog 277 := ⟨Tryz.call277⟩
instance yR5_146 : Cf Tryz.prog 298 := ⟨Tryz.call298⟩
instance yR5_147 : Cf Tryz.prog 299 := ⟨Tryz.call299⟩
instance yR5_148 : Cf Tryz.prog 300 := ⟨Tryz.call300⟩
instance yR5_149 : Cf Tryz.prog 301 := ⟨Tryz.call301⟩
instance yR5_150 : Cf Tryz.prog 302 := ⟨Tryz.call302⟩
instance yR5_151 : Cf Tryz.prog 303 := ⟨Tryz.call303⟩
instance yR5_152 : Cf Tryz.prog 304 := ⟨Tryz.call304⟩
instance yR5_153 : Cf Tryz.prog 313 := ⟨Tryz.call313⟩
instance yR5_154 : Cf Tryz.prog 315 := ⟨Tryz.call315⟩
instance yR5_155 : Cf Tryz.prog 317 := ⟨Tryz.call317⟩
instance yR5_156 : Cf Tryz.prog 320 := ⟨Tryz.call320⟩
instance yR5_157 : Cf Tryz.prog 321 := ⟨Tryz.call321⟩
instance yR5_158 : Cf Tryz.prog 331 := ⟨Tryz.call331⟩
instance yR5_159 : Cf Tryz.prog 332 := ⟨Tryz.call332⟩
instance yR5_160 : Cf Tryz.prog 334 := ⟨Tryz.call334⟩
instance yR5_161 : Cf Tryz.prog 341 := ⟨Tryz.call341⟩
instance yR5_162 : Cf Tryz.prog 342 := ⟨Tryz.call342⟩
def oUN : U Ln := ⟨⟨⟨oQ, oQ, false⟩, ⟨oQ, oQ, false⟩, false, false⟩, ⟨oQ, oQ, oQ, oQ⟩⟩
instance yR5_163 : Zc Tryz.prog 29 (cPt ⟨oQ, oQ⟩) := ⟨⟨_, vv29, rfl⟩⟩
instance yR5_164 : Zc Tryz.prog 31 (cSm ⟨oQ, ⟨oQ, oQ⟩⟩) := ⟨⟨_, vv31, rfl⟩⟩
instance yR5_165 : Zc Tryz.prog 88 (cUN oUN) := ⟨⟨_, vv88, rfl⟩⟩
instance yR5_166 : Zc Tryz.prog 247 (cRP ⟨⟨oQ, oQ, false⟩, ⟨oQ, oQ, false⟩⟩) := ⟨⟨_, vv247, rfl⟩⟩
instance yR5_167 : Zc Tryz.prog 66 [.slice none 0 0] := ⟨⟨_, Tryz.zeroValue66, rfl⟩⟩
instance yR5_168 : Sh Tryz.prog 29 Pnt vPt := ⟨trivial⟩
instance yR5_169 : Sh Tryz.prog 31 Smp vSm := ⟨trivial⟩
instance yR5_170 : Sh Tryz.prog 88 (U Ln) vUN := ⟨trivial⟩
instance yR5_171 : Sh Tryz.prog 247 RPt vRP := ⟨trivial⟩
theorem sh : BuildF Tryz.prog 88 (cUN oUN) [(0, 20), (20, 16)] := BuildF.of vv88 rfl uu88 (by intro w; simp [Tryz.sizeOf86, Tryz.sizeOf79])
theorem bld29 : BuildF Tryz.prog 29 (cPt ⟨oQ, oQ⟩) [(0, 4), (4, 4)] := BuildF.of vv29 rfl uu29 (by intro w; simp [Tryz.sizeOf27])
theorem bld31 : BuildF Tryz.prog 31 (cSm ⟨oQ, ⟨oQ, oQ⟩⟩) [(0, 4), (4, 8)] := BuildF.of vv31 rfl uu31 (by intro w; simp [Tryz.sizeOf27, Tryz.sizeOf29])
theorem bld247 : BuildF Tryz.prog 247 (cRP ⟨⟨oQ, oQ, false⟩, ⟨oQ, oQ, false⟩⟩) [(0, 9), (9, 9)] := BuildF.of vv247 rfl uu247 (by intro w; simp [Tryz.sizeOf71])
instance yR5_172 (x : Iv) (f : Ln) : Bu Tryz.prog 88 [0, 1] [vV x, vN f] (vUN (⟨x, f⟩ : U Ln)) := Bu.of sh rfl rfl
instance yR5_173 (x : Iv) (f : Ln) : Bu Tryz.prog 199 [0, 1] [vV x, vN f] (vUN (⟨x, f⟩ : U Ln)) := Bu.of lF rfl rfl
instance yR5_174 (x y : GQ) : Bu Tryz.prog 29 [0, 1] [vQ x, vQ y] (vPt ⟨x, y⟩) := Bu.of bld29 rfl rfl
instance yR5_175 (x : GQ) (p : Pnt) : Bu Tryz.prog 31 [0, 1] [vQ x, vPt p] (vSm ⟨x, p⟩) := Bu.of bld31 rfl rfl
instance yR5_176 (x y : GR) : Bu Tryz.prog 247 [0, 1] [vR x, vR y] (vRP ⟨x, y⟩) := Bu.of bld247 rfl rfl
instance yR5_177 (a b c d : GQ) : Bu Tryz.prog 79 [0, 1, 2, 3] [vQ a, vQ b, vQ c, vQ d] (vN ⟨a, b, c, d⟩) := Bu.of uo rfl rfl
instance yR5_178 (a c : GQ) : Bu Tryz.prog 79 [0, 2] [vQ a, vQ c] (vN ⟨a, oQ, c, oQ⟩) := Bu.of uo rfl rfl
instance yR5_179 (a c d : GQ) : Bu Tryz.prog 79 [0, 2, 3] [vQ a, vQ c, vQ d] (vN ⟨a, oQ, c, d⟩) := Bu.of uo rfl rfl
instance yR5_180 (x y : GR) : Bu Tryz.prog 86 [0, 1] [vR x, vR y] (vV ⟨x, y, false, false⟩) := Bu.of lE rfl rfl
instance yR5_181 (x y : GR) (b : Bool) : Bu Tryz.prog 86 [0, 1, 2] [vR x, vR y, .bool b] (vV ⟨x, y, b, false⟩) := Bu.of lE rfl rfl
instance yR5_182 : Bu Tryz.prog 80 [] [] (.agg #[]) := Bu.of bld80 rfl rfl
instance yR5_183 : Ie Tryz.prog 80 := ⟨fun hx => vt Tryz.runUnderlying80 rfl hx⟩
theorem kA : SlT Tryz.prog 33 88 36 408 (cUN oUN) := ⟨Tryz.underlying33, Tryz.t88, _, Tryz.type88, rfl, rfl, rfl, rfl, rfl, by decide, by decide⟩
theorem slt23 : SlT Tryz.prog 23 31 12 144 (cSm ⟨oQ, ⟨oQ, oQ⟩⟩) := ⟨Tryz.underlying23, Tryz.t31, _, Tryz.type31, rfl, rfl, rfl, rfl, rfl, by decide, by decide⟩
section
variable {P : Program} {w0 w : World} {N : Nat} {F : List (Nat × Value)} {L : List Asn} {a : Act} {fn : Func} {R : Ending → World → Prop}
theorem kY {α : Type} [Cod α] {ol : List Oper} {H : List Hist} {ξ : Nat → Value} {G : (Nat → Value) → List (Nat × Value)} {st et bytes i : Nat} {zero : List Value} {x : Operand} {v : Value} {dst : Option Tmp} {ty : TypeId} {pos : String} {aft : Array Edge} (e0 : Nat) (u : α) (hT : SlT P st et (Cod.n α) bytes zero) (hx : evs (fI (G ξ) (eh (.buildSlice st 1 #[(0, x)]))) [x] = some [v]) (hv : [v].map (fun v => v.cells.toList) = [u].map Cod.enc)
    (h1 : cA H [e0] i ξ = [.emp] := by rfl) (h2 : ∀ v, cA H [e0] (i + 1) (upd ξ i v) = [.row et v [u]] := by (intro v; simp only [cA, bn] <;> rfl)) : ObS P w0 ol H G ξ i ⟨dst, .buildSlice st 1 #[(0, x)], ty, pos, aft, none⟩ ⟨.nd (.one i fun v => NN v 1), [e0]⟩ :=
  l8 (ψ := fun v => NN v 1) (B := fun v => [.row et v [u]]) [.emp] h1 (fun v _ => h2 v) (fun v hv => by simpa [DF.one, bn] using hv) (jI (di (α := α) (xs := [x]) [u] hT hx hv rfl (by decide)))
theorem qo {α : Type} [Cod α] {ol : List Oper} {H : List Hist} {ξ : Nat → Value} {G : (Nat → Value) → List (Nat × Value)} {st et bytes i j : Nat} {zero : List Value} {x y : Operand} {sv : Value} {dst : Option Tmp} {ty : TypeId} {pos : String} {aft : Array Edge} (eo e0 : Nat) {xs : List α} {u : α} (hT : SlT P st et (Cod.n α) bytes zero) (hx : ev (fI (G ξ) (eh (.call ⟨.builtin .append, #[x, y], #[st, st]⟩))) x = some sv) (hy : ev (fI (G ξ) (eh (.call ⟨.builtin .append, #[x, y], #[st, st]⟩))) y = some (ξ j)) (hl : xs.length + 1 ≤ 34359738368)
    (h1 : cA H [eo, e0] i ξ = [.row et sv xs, .row et (ξ j) [u]]) (h2 : ∀ v, cA H [eo, e0] (i + 1) (upd ξ i v) = [.row et v (xs ++ [u]), .row et (ξ j) [u]]) : ObS P w0 ol H G ξ i ⟨dst, .call ⟨.builtin .append, #[x, y], #[st, st]⟩, ty, pos, aft, none⟩ ⟨.nd (.con True), [eo, e0]⟩ :=
  l8 (B := fun v => [.row et v (xs ++ [u]), .row et (ξ j) [u]]) [.row et sv xs, .row et (ξ j) [u]] h1 (fun v _ => h2 v) (fun _ _ => trivial) (fW (xs := xs) (ys := [u]) hT (fun w hs => (row_view hs 0 rfl)) hx hy hl)
theorem kZ {ol : List Oper} {H : List Hist} {ξ : Nat → Value} {G : (Nat → Value) → List (Nat × Value)} {i j : Nat} {x : Operand} {dst : Option Tmp} {ty : TypeId} {pos : String} {aft : Array Edge} (hij : j ≠ i) (hx : ev (fI (G ξ) (eh (.assign x))) x = some (ξ j)) : ObS P w0 ol H G ξ i ⟨dst, .assign x, ty, pos, aft, none⟩ ⟨.nd (.two i j fun a b => a = b), []⟩ :=
  ob_n (φ := .two i j fun a b => a = b) (v := ξ j) [] rfl rfl (by show upd ξ i (ξ j) i = upd ξ i (ξ j) j; rw [bn, mK hij]) (aC hx)
theorem rtc {t ty b n e : Nat} {cs : List Value} {v : Value} (i : Nat) (h : St w0 N F L a w) (hR : R (.returned v) w) (hrs : fn.results = [.cell t ty].toArray := by rfl) (ha : Ag P ty true := by infer_instance) (hz : Sz P ty n := by infer_instance) (hx : look F t = some (ptr b 0) := by rfl) (hi : L[i]? = some (Asn.blk b cs e) := by rfl)
    (h0 : Nat.blt 0 n = true := by rfl) (hl : ((cs.drop 0).take n).length = n := by rfl) (hv : mkv true ((cs.drop 0).take n) = v := by rfl) : bodyPost P fn R .ret a w :=
  ret h hrs (.cell hx hi ha.h hz.h h0 hl hv .nil) rfl hR
theorem rtc2 {t ty b n e u : Nat} {cs : List Value} {v x : Value} (i : Nat) (h : St w0 N F L a w) (hR : R (.returned (.tuple [v, x].toArray)) w) (hrs : fn.results = [.cell t ty, .tmp u].toArray := by rfl) (ha : Ag P ty true := by infer_instance) (hz : Sz P ty n := by infer_instance) (hx : look F t = some (ptr b 0) := by rfl) (hi : L[i]? = some (Asn.blk b cs e) := by rfl)
    (hu : look F u = some x := by rfl) (h0 : Nat.blt 0 n = true := by rfl) (hl : ((cs.drop 0).take n).length = n := by rfl) (hv : mkv true ((cs.drop 0).take n) = v := by rfl) : bodyPost P fn R .ret a w :=
  ret h hrs (.cell hx hi ha.h hz.h h0 hl hv (.tmp hu .nil)) rfl hR
end
end Go.Sx
namespace Go.Sx
theorem nR [K : Key] {α : Type} {n : List (U α)} (hW : ∀ x ∈ n, Wv x.iv) (h : n.Pairwise fun a b => eR a.iv < (eI b.iv : Int)) : n.Pairwise fun a b => eI a.iv < eI b.iv :=
  h.imp_of_mem fun {a b} ha _ h => by have := (hW a ha).le; omega
theorem tm_sz [K : Key] {x : GR} (h : Tm x) : SzR 36 x := h.szr
end Go.Sx
