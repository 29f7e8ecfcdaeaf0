/- A part of the proof that the law BracketQuestions/Checks answers true at every input and leaves its arguments as they were. -/
import Derived.Test.YtbnldpccdppmiaaGreatDoorA2
import Derived.KernelRfl
import Derived.Laws.BytesString
import Derived.Laws.Externs
import Derived.Laws.CopyRow
import Derived.Laws.IdiomCopy
set_option linter.unusedVariables false
set_option linter.unusedSimpArgs false
namespace Go.Sx
open Go Go.RowKit
def leF : Nat → Nat → List UInt8
  | 0, _ => []
  | f + 1, n => bif Nat.beq n 0 then [] else UInt8.ofNat (n % 256) :: leF f (n / 256)
def le (n : Nat) : List UInt8 := leF n n
def bs (n : Nat) : ByteArray := ⟨(le n).reverse.toArray⟩
def ofLE : List UInt8 → Nat
  | [] => 0
  | b :: l => b.toNat + 256 * ofLE l
theorem jy (f : Nat) : leF f 0 = [] := by cases f <;> rfl
theorem nm : ∀ (f n : Nat), n ≤ f → ofLE (leF f n) = n
  | 0, n, h => by have : n = 0 := by omega
                  subst this; rfl
  | f + 1, n, h => by
    unfold leF
    cases hb : Nat.beq n 0 with
    | true => rw [Nat.eq_of_beq_eq_true hb]; rfl
    | false =>
      have hn : n ≠ 0 := fun e => by subst e; simp at hb
      simp only [cond_false, ofLE]
      rw [nm f (n / 256) (by omega)]
      have : (UInt8.ofNat (n % 256)).toNat = n % 256 := by
        rw [UInt8.toNat_ofNat']
        omega
      rw [this]
      omega
theorem lC (n : Nat) : ofLE (le n) = n := nm n n (Nat.le_refl n)
theorem le_inj {m n : Nat} (h : le m = le n) : m = n := by rw [← lC m, h, lC]
theorem bs_inj {m n : Nat} (h : bs m = bs n) : m = n := by
  unfold bs at h
  have h1 : (le m).reverse.toArray = (le n).reverse.toArray := by injection h
  have h2 : (le m).reverse = (le n).reverse := by injection h1
  exact le_inj (List.reverse_inj.1 h2)
theorem bs_eq (m n : Nat) : decide (bs m = bs n) = decide (m = n) := by
  by_cases h : m = n
  · simp [h]
  · have : bs m ≠ bs n := fun e => h (bs_inj e)
    simp [h, this]
theorem bs_beq (m n : Nat) : ((bs m).toList == (bs n).toList) = decide (m = n) := by rw [lV, bs_eq]
structure GI where
  neg : Bool
  mag : Nat
  deriving DecidableEq
structure GQ where
  num : GI
  den : GI
  deriving DecidableEq
structure GR where
  p : GQ
  r : GQ
  neg : Bool
  deriving DecidableEq
structure Iv where
  lo : GR
  hi : GR
  openLo : Bool
  openHi : Bool
  deriving DecidableEq
structure Qd where
  c0 : GQ
  c1 : GQ
  c2 : GQ
  deriving DecidableEq
structure U (α : Type) where
  iv : Iv
  f : α
  deriving DecidableEq
def cI (x : GI) : List Value := [.bool x.neg, .string (bs x.mag)]
def cQ (x : GQ) : List Value := cI x.num ++ cI x.den
def cR (x : GR) : List Value := cQ x.p ++ (cQ x.r ++ [.bool x.neg])
def cV (x : Iv) : List Value := cR x.lo ++ (cR x.hi ++ [.bool x.openLo, .bool x.openHi])
def cD (x : Qd) : List Value := cQ x.c0 ++ (cQ x.c1 ++ cQ x.c2)
def cUI (x : U Int) : List Value := cV x.iv ++ [.int .i64 x.f]
def cUD (x : U Qd) : List Value := cV x.iv ++ cD x.f
def vI (x : GI) : Value := .agg (cI x).toArray
def vQ (x : GQ) : Value := .agg (cQ x).toArray
def vR (x : GR) : Value := .agg (cR x).toArray
def vV (x : Iv) : Value := .agg (cV x).toArray
def vD (x : Qd) : Value := .agg (cD x).toArray
def vUD (x : U Qd) : Value := .agg (cUD x).toArray
instance : Cod GI := ⟨cI, 2, fun _ => rfl, fun x c h => by simp [cI] at h; rcases h with rfl | rfl <;> rfl, by decide⟩
theorem oneQ (x : GQ) : ∀ c ∈ cQ x, c.oneCell' = true := fun c h => (List.mem_append.1 h).elim (Cod.one (α := GI) _ c) (Cod.one (α := GI) _ c)
instance : Cod GQ := ⟨cQ, 4, fun _ => rfl, oneQ, by decide⟩
theorem fd {A B : List Value} (hA : ∀ c ∈ A, c.oneCell' = true) (hB : ∀ c ∈ B, c.oneCell' = true) : ∀ c ∈ A ++ B, c.oneCell' = true := fun c h => (List.mem_append.1 h).elim (hA c) (hB c)
theorem oneR (x : GR) : ∀ c ∈ cR x, c.oneCell' = true := fd (oneQ _) (fd (oneQ _) (by simp [Value.oneCell']))
instance : Cod GR := ⟨cR, 9, fun _ => rfl, oneR, by decide⟩
theorem oneV (x : Iv) : ∀ c ∈ cV x, c.oneCell' = true := fd (oneR _) (fd (oneR _) (by simp [Value.oneCell']))
instance : Cod Iv := ⟨cV, 20, fun _ => rfl, oneV, by decide⟩
theorem oneD (x : Qd) : ∀ c ∈ cD x, c.oneCell' = true := fd (oneQ _) (fd (oneQ _) (oneQ _))
instance : Cod Qd := ⟨cD, 12, fun _ => rfl, oneD, by decide⟩
instance : Cod (U Int) := ⟨cUI, 21, fun _ => rfl, fun x => fd (oneV _) (by simp [Value.oneCell']), by decide⟩
instance : Cod (U Qd) := ⟨cUD, 32, fun _ => rfl, fun x => fd (oneV _) (oneD _), by decide⟩
section
variable {P : Program}
def EqIn (P : Program) (k : Nat) (t : TypeId) {α : Type} [DecidableEq α] (val : α → Value) : Prop := ∀ (d : Nat) (x y : α) (w : World), k ≤ d → (Op.equalIn d t (val x) (val y)).run P w = .ok (decide (x = y)) w
theorem EqIn.p {t : TypeId} {k : Nat} (hk : Nat.ble k 10000 = true) {α : Type} [DecidableEq α] {val : α → Value} {c : α → Array Value} (hv : ∀ x, val x = .agg (c x)) (hg : P.eqGuardType P.depth t = false) (h : EqIn P k t val) : EqP P t val := by
  intro x y ox oy w
  have h0 := h 10000 x y w (Nat.le_of_ble_eq_true hk)
  rw [hv, hv] at h0 ⊢
  refine ⟨run_eqGuard_agg w _ t ox oy _ _ hg, run_eqGuard_agg w _ t ox oy _ _ hg, ?_, ?_⟩
  · rw [run_eql_struct, h0]; rfl
  · rw [run_neq_struct, h0]; rfl
theorem eqB {t : TypeId} (h : P.underlying t = some .bool) (d : Nat) (hd : 1 ≤ d) (a b : Bool) (w : World) : (Op.equalIn d t (.bool a) (.bool b)).run P w = .ok (decide (a = b)) w := by
  obtain ⟨d', rfl⟩ : ∃ d', d = d' + 1 := ⟨d - 1, by omega⟩
  rw [run_equalIn_bool' w d' t a b h]
  cases a <;> cases b <;> rfl
theorem eqBs {t : TypeId} (h : P.underlying t = some .string) (d : Nat) (hd : 1 ≤ d) (a b : Nat) (w : World) : (Op.equalIn d t (.string (bs a)) (.string (bs b))).run P w = .ok (decide (a = b)) w := by
  obtain ⟨d', rfl⟩ : ∃ d', d = d' + 1 := ⟨d - 1, by omega⟩
  rw [run_equalIn_string w d' t _ _ h, bs_beq]
theorem eqF {d : Nat} {f : Field} {fs : List Field} {xs ys : Array Value} {a b : Value} {p q : Prop} [Decidable p] [Decidable q] {w : World} (hn : f.name ≠ "_") (ha : (part f.type xs f.offset).run P w = .ok a w) (hb : (part f.type ys f.offset).run P w = .ok b w)
    (he : (Op.equalIn d f.type a b).run P w = .ok (decide p) w) (hr : (Op.eqFields d xs ys fs).run P w = .ok (decide q) w) : (Op.eqFields d xs ys (f :: fs)).run P w = .ok (decide (p ∧ q)) w := by
  simp only [Op.eqFields, hn, ne_eq, not_false_eq_true, if_true, Sem.run_bind, ha, hb, he, Result.andThen_ok]
  by_cases hp : p <;> by_cases hq : q <;> simp [hp, hq, hr]
theorem eqF0 {d : Nat} {xs ys : Array Value} {w : World} : (Op.eqFields d xs ys []).run P w = .ok (decide True) w := by simp [Op.eqFields]
theorem e8 {t : TypeId} {n o : Nat} {cs : List Value} {v : Value} (ha : ∀ w, (isAgg t).run P w = .ok true w) (hz : ∀ w, (sizeOf t).run P w = .ok n w) (hv : Value.agg ((cs.drop o).take n).toArray = v) (w : World) : (part t cs.toArray o).run P w = .ok v w := by
  simp [part, ha w, hz w, ← hv]
theorem fP {t : TypeId} {o : Nat} {cs : List Value} {v : Value} (ha : ∀ w, (isAgg t).run P w = .ok false w) (hv : cs[o]? = some v) (w : World) : (part t cs.toArray o).run P w = .ok v w := by
  simp [part, ha w, hv]
theorem eqS {t : TypeId} {k : Nat} {fs : Array Field} {α : Type} [DecidableEq α] {c : α → List Value} {val : α → Value} (hv : ∀ x, val x = .agg (c x).toArray) (hu : P.underlying t = some (.struct fs)) (hs : P.stoodInHeld t = false)
    (h : ∀ d x y w, k ≤ d → (Op.eqFields d (c x).toArray (c y).toArray fs.toList).run P w = .ok (decide (x = y)) w) : EqIn P (k + 1) t val := by
  intro d x y w hd
  obtain ⟨d', rfl⟩ : ∃ d', d = d' + 1 := ⟨d - 1, by omega⟩
  have hf : P.fieldsOf t = fs := by simp [Program.fieldsOf, hu]
  rw [hv, hv, run_equalIn_struct w d' t _ _ (by rw [hf]; exact hu) hs, hf]
  exact h d' x y w (by omega)
end
end Go.Sx
namespace Go.Sx
open Go Go.RowKit
def RetP (w : World) (v : Value) (p : Prop) : Ending → World → Prop := fun e w' => e = .returned v ∧ p ∧ Below w.heap.size w w'
section
variable {P : Program} {w0 : World} {N : Nat} {F : List (Nat × Value)} {L : List Asn} {a : Act} {w : World} {ops : Array Oper} {Q : Exit → Act → World → Prop} {rest : List Oper}
  {d : Nat} {op : Op} {ty : TypeId} {pos : String} {aft : Array Edge}
theorem Calls.pr {f : FuncId} {args : Array Value} {v : Value} {p : Prop} (h : Calls P f args w (RetP w v p)) : p := by
  obtain ⟨_, _, _, ⟨_, hp, _⟩, _⟩ := h []
  exact hp
theorem Calls.v {f : FuncId} {args : Array Value} {v : Value} {p : Prop} (h : Calls P f args w (RetP w v p)) : Calls P f args w (RetV w v) := h.mono fun _ _ h => ⟨h.1, h.2.2⟩
theorem St.retP (h : St w0 N F L a w) {v u : Value} {p : Prop} (e : v = u) (hp : p) : RetP w0 u p (.returned v) w := ⟨by rw [e], hp, h.bel⟩
theorem clp {f : FuncId} {args : Array Operand} {ats : Array TypeId} {vs : List Value} {v : Value} {p : Prop} (h : St w0 N F L a w) (hc : ∀ args w, (callFunc f args).run P w = .ok (.enter f args) w) (ha : evs F args.toList = some vs)
    (ct : ∀ w, Calls P f vs.toArray w (RetP w v p)) (hd : Nat.blt d N = true) (k : ∀ a w, St w0 N ((d, v) :: F) L a w → wpList P ops Q rest a w) :
    wpList P ops Q (⟨some d, .call ⟨.value (.func f), args, ats⟩, ty, pos, aft, none⟩ :: rest) a w := clv h hc ha (fun w => Calls.v (ct w)) hd k
theorem dF {f : FuncId} {args : Array Operand} {ats : Array TypeId} {vs : List Value} {v : Value} {p : Prop} (hc : ∀ args w, (callFunc f args).run P w = .ok (.enter f args) w) (ha : evs F args.toList = some vs)
    (ct : ∀ w, Calls P f vs.toArray w (RetP w v p)) : gP P w0 F L (.call ⟨.value (.func f), args, ats⟩) (· = v) (fun _ => L) := s_clv hc ha fun w => Calls.v (ct w)
theorem en {x : Operand} {xs : List Operand} {v : Value} {vs : List Value} (h : ev F x = some v) (hs : evs F xs = some vs) : evs F (x :: xs) = some (v :: vs) := by simp [evs, h, hs]
theorem lA {x y : Operand} {t tt : TypeId} {m n : Nat} (hx : ev F x = some (.string (bs m))) (hy : ev F y = some (.string (bs n))) : Rd P w0 F [] (.binOp .eql t x y tt) (.bool (decide (m = n))) := by
  have := r_eqlS (P := P) (w0 := w0) (t := t) (tt := tt) hx hy
  rwa [bs_eq] at this
theorem kr {x y : Operand} {t tt : TypeId} {m n : Nat} (hx : ev F x = some (.string (bs m))) (hy : ev F y = some (.string (bs n))) : Rd P w0 F [] (.binOp .neq t x y tt) (.bool (!decide (m = n))) := by
  have := r_neqS (P := P) (w0 := w0) (t := t) (tt := tt) hx hy
  rwa [bs_eq] at this
theorem fU {φ : Value → Prop} {A : Value → List Asn} (h : gP P w0 F [] op φ A) : gP P w0 F [.emp] op φ A := by
  intro o a w U K Q ho ha hb hs k
  obtain ⟨f, V, hU, _, _, hf, hV⟩ := hs
  exact h o a w U K Q ho ha hb (fun k hk => ((hU k).1 hk).elim (hf k) (hV k)) k
def SubF : List (Nat × Value) → List (Nat × Value) → Prop
  | [], _ => True
  | (t, v) :: F', F => look F t = some v ∧ SubF F' F
theorem SubF.look : ∀ {F' F : List (Nat × Value)}, SubF F' F → ∀ t v, look F' t = some v → look F t = some v
  | [], _, _, t, v, h => by simp [Sx.look] at h
  | (u, x) :: F', F, ⟨h1, h2⟩, t, v, h => by
    simp only [Sx.look] at h
    cases hb : Nat.beq u t with
    | true =>
      have := Nat.eq_of_beq_eq_true hb
      subst this
      rw [hb] at h
      simp at h
      subst h
      exact h1
    | false =>
      rw [hb] at h
      exact SubF.look h2 t v h
theorem St.sub {F' : List (Nat × Value)} (h : St w0 N F L a w) (hF : SubF F' F) : St w0 N F' L a w := h.weak hF.look
theorem sep_emp {lo : Nat} {U : Fp} (h : Sep lo w L U) : Sep lo w (L ++ [.emp]) U :=
  (h.append (B := [.emp]) (V := fun _ => False) ⟨fun _ => False, fun _ => False, fun _ => by simp, fun _ h => h.elim, fun _ h => h.elim, fun _ => id, fun _ => id⟩ (fun _ _ => id)).congr fun k => by simp
theorem St.emps (h : St w0 N F L a w) : ∀ n : Nat, St w0 N F (L ++ List.replicate n .emp) a w
  | 0 => by simpa using h
  | n + 1 => by
    have := St.emps h n
    obtain ⟨U, hU⟩ := this.sep
    have h2 := sep_emp hU
    rw [List.append_assoc, ← List.replicate_succ'] at h2
    exact ⟨h.size, h.defers, h.regs, h.bel, U, h2⟩
theorem St.pick (h : St w0 N F L a w) (ix : List Nat) (hn : ix.Nodup) : St w0 N F (ix.filterMap fun i => L[i]?) a w := by
  obtain ⟨U, hU⟩ := h.sep
  refine ⟨h.size, h.defers, h.regs, h.bel, ?_⟩
  have : ∀ (ix : List Nat) (L : List Asn), ix.Nodup → (∀ {U}, Sep w0.heap.size w L U → ∃ V, Sep w0.heap.size w (ix.filterMap fun i => L[i]?) V ∧ ∀ k, V k → U k) := by
    intro ix
    induction ix with
    | nil => exact fun L _ _ hU => ⟨fun _ => False, fun _ => id, fun _ h => h.elim⟩
    | cons i ix ih =>
      intro L hn U hU
      obtain ⟨hi, hn'⟩ := List.nodup_cons.1 hn
      cases hLi : L[i]? with
      | none =>
        simp only [List.filterMap_cons, hLi]
        exact ih L hn' hU
      | some r =>
        simp only [List.filterMap_cons, hLi]
        obtain ⟨B, hp, hq⟩ := dX Asn.emp hLi
        obtain ⟨f, V, hUV, hd, hf, hr, hB⟩ := Sep.perm hp hU
        have hE : Sep w0.heap.size w (Asn.emp :: B) V := ⟨fun _ => False, V, fun k => by simp, fun _ h => h.elim, fun _ h => h.elim, fun _ => id, hB⟩
        obtain ⟨W, hW, hWV⟩ := ih (L.set i .emp) hn' (Sep.perm hq hE)
        have hsame : (ix.filterMap fun j => (L.set i .emp)[j]?) = ix.filterMap fun j => L[j]? := by
          refine Sx.List.filterMap_congr_mem fun j hj => ?_
          rw [List.getElem?_set_ne]
          intro e
          exact hi (e ▸ hj)
        rw [hsame] at hW
        refine ⟨fun k => f k ∨ W k, ⟨f, W, fun _ => Iff.rfl, fun k hk hw => hd k hk (hWV k hw), hf, hr, hW⟩, ?_⟩
        rintro k (h | h)
        · exact (hUV k).2 (.inl h)
        · exact (hUV k).2 (.inr (hWV k h))
  obtain ⟨V, hV, _⟩ := this ix L hn hU
  exact ⟨V, hV⟩
theorem aR {I : Nat → Act → World → Prop} {n : Nat} (h : ∃ n', n' < n ∧ I n' a w) : Exit.then (fun a' w' => ∃ n', n' < n ∧ I n' a' w') Q .normal a w := h
theorem row_view {α : Type} [Cod α] {e : TypeId} {sv : Value} {xs : List α} (hs : ∃ U, Sep w0.heap.size w L U) (i : Nat) (hi : L[i]? = some (Asn.row e sv xs)) : View w sv xs := by
  obtain ⟨U, hU⟩ := hs
  obtain ⟨f, ⟨hr, _⟩, _⟩ := hU.at hi
  exact fg hr
end
theorem andI {a b : Bool} (h : a = true) (h' : b = true) : (a && b) = true := by simp [h, h']
theorem mO {a : Bool} (h : a = false) : (!a) = true := by simp [h]
def SzB (k m : Nat) : Prop := (le m).length * 2 ^ k ≤ 70368744177664
def SzI (k : Nat) (x : GI) : Prop := SzB k x.mag
def SzQ (k : Nat) (x : GQ) : Prop := SzI k x.num ∧ SzI k x.den
def SzR (k : Nat) (x : GR) : Prop := SzQ k x.p ∧ SzQ k x.r
def SzV (k : Nat) (x : Iv) : Prop := SzR k x.lo ∧ SzR k x.hi
def SzD (k : Nat) (x : Qd) : Prop := SzQ k x.c0 ∧ SzQ k x.c1 ∧ SzQ k x.c2
theorem qb {j k m : Nat} (h : SzB k m) (hj : j ≤ k) : SzB j m :=
  Nat.le_trans (Nat.mul_le_mul_left _ (Nat.pow_le_pow_right (by decide) hj)) h
theorem fW {j k : Nat} {x : GI} (h : SzI k x) (hj : j ≤ k) : SzI j x := qb h hj
theorem ed {j k : Nat} {x : GQ} (h : SzQ k x) (hj : j ≤ k) : SzQ j x := ⟨fW h.1 hj, fW h.2 hj⟩
theorem da {j k : Nat} {x : GR} (h : SzR k x) (hj : j ≤ k) : SzR j x := ⟨ed h.1 hj, ed h.2 hj⟩
theorem eR {j k : Nat} {x : Qd} (h : SzD k x) (hj : j ≤ k) : SzD j x := ⟨ed h.1 hj, ed h.2.1 hj, ed h.2.2 hj⟩
theorem cu {k : Nat} (m : Nat) (hm : m < 256) (hk : k ≤ 46) : SzB k m := by
  have h1 : (le m).length ≤ 1 := by
    unfold le
    match m with
    | 0 => simp [leF]
    | m + 1 =>
      unfold leF
      have : (m + 1) / 256 = 0 := by omega
      rw [this, jy]
      cases Nat.beq (m + 1) 0 <;> simp
  calc (le m).length * 2 ^ k ≤ 1 * 2 ^ 46 := Nat.mul_le_mul h1 (Nat.pow_le_pow_right (by decide) hk)
    _ = 70368744177664 := by decide
theorem nM (k : Nat) : SzB k 0 := by simp [SzB, le, leF]
end Go.Sx
namespace Go.Sx
theorem aJ {P : Program} {f : FuncId} {args : Array Value} {w w' : World} {v : Value} {p : Prop} (h : Calls P f args w (RetP w' v p)) : p := by
  obtain ⟨_, _, _, ⟨_, hp, _⟩, _⟩ := h []
  exact hp
theorem cT {α : Type} {c : Bool} {x y : α} (h : c = true) : (bif c then x else y) = x := by rw [h]; rfl
theorem cF {α : Type} {c : Bool} {x y : α} (h : c = false) : (bif c then x else y) = y := by rw [h]; rfl
end Go.Sx
namespace Go.Sx
def a6 (a b : Nat) : Int := bif Nat.blt a b then -1 else bif Nat.beq a b then 0 else 1
theorem nH {a b : Nat} (h : decide (a6 a b ≥ 0) = true) : b ≤ a := by
  have h := of_decide_eq_true h
  unfold a6 at h
  rw [dI] at h
  by_cases hlt : a < b
  · simp [hlt] at h
  · omega
theorem nG {a b : Nat} (h : decide (a6 a b ≥ 0) = false) : a ≤ b := by
  have h := of_decide_eq_false h
  unfold a6 at h
  rw [dI] at h
  by_cases hlt : a < b
  · omega
  · simp [hlt] at h
    cases hb : Nat.beq a b <;> simp [hb] at h
end Go.Sx
namespace Go.Sx
theorem ee {a b : Int} (ha : -1 ≤ a ∧ a ≤ 1) (hb : -1 ≤ b ∧ b ≤ 1) : -1 ≤ a * b ∧ a * b ≤ 1 := by
  obtain ⟨h1, h2⟩ := ha
  have : a = -1 ∨ a = 0 ∨ a = 1 := by omega
  rcases this with rfl | rfl | rfl <;> omega
theorem gI {a b : Int} (ha : -1 ≤ a ∧ a ≤ 1) (hb : -1 ≤ b ∧ b ≤ 1) : IntKind.i64.wrap (a * b) = a * b := by
  have := ee ha hb
  rw [IntKind.wrap_i64]; omega
end Go.Sx
namespace Go.Sx
open Go Go.RowKit
instance codNat : Cod Nat := ⟨fun n => [.int .u32 (n : Int)], 1, fun _ => rfl, fun x c h => by simp at h; subst h; rfl, by decide⟩
instance codU8 : Cod UInt8 := ⟨fun n => [.int .u8 (n.toNat : Int)], 1, fun _ => rfl, fun x c h => by simp at h; subst h; rfl, by decide⟩
instance codInt : Cod Int := ⟨fun n => [.int .i64 n], 1, fun _ => rfl, fun x c h => by simp at h; subst h; rfl, by decide⟩
section
variable {P : Program} {w0 : World} {N : Nat} {F : List (Nat × Value)} {L : List Asn} {a : Act} {w : World} {ops : Array Oper} {Q : Exit → Act → World → Prop} {rest : List Oper}
  {d : Nat} {op : Op} {ty : TypeId} {pos : String} {aft : Array Edge}
theorem clq {f : FuncId} {args : Array Operand} {ats : Array TypeId} {vs : List Value} {v : Value} {p : Prop} (h : St w0 N F L a w) (hc : ∀ args w, (callFunc f args).run P w = .ok (.enter f args) w) (ha : evs F args.toList = some vs)
    (ct : ∀ w, Below w0.heap.size w0 w → (∃ U, Sep w0.heap.size w L U) → Calls P f vs.toArray w (RetP w v p)) (hd : Nat.blt d N = true) (k : ∀ a w, St w0 N ((d, v) :: F) L a w → wpList P ops Q rest a w) :
    wpList P ops Q (⟨some d, .call ⟨.value (.func f), args, ats⟩, ty, pos, aft, none⟩ :: rest) a w :=
  cl h hc ha (fun w hb hs => (Calls.v (ct w hb hs)).mono fun _ _ h => h.ret) hd fun u a w hu h => by subst hu; exact k a w h
def RetR {α : Type} [Cod α] (w : World) (e : TypeId) (xs : List α) (p : Prop) : Ending → World → Prop := Ret w (fun v => SL v xs.length ∧ p) (fun v => [.row e v xs])
theorem RetR.pr {f : FuncId} {args : Array Value} {α : Type} [Cod α] {e : TypeId} {xs : List α} {p : Prop} {w' : World} (h : Calls P f args w (RetR w' e xs p)) : p := by
  obtain ⟨_, _, _, ⟨_, _, _, ⟨_, hp⟩, _⟩, _⟩ := h []
  exact hp
theorem St.row_sl {α : Type} [Cod α] {e : TypeId} {sv : Value} {xs : List α} (h : St w0 N F L a w) (i : Nat) (hi : L[i]? = some (Asn.row e sv xs)) : SL sv xs.length := (h.row_view i hi).sl
theorem St.row_nn {α : Type} [Cod α] {e : TypeId} {sv : Value} {xs : List α} (h : St w0 N F L a w) (i : Nat) (hi : L[i]? = some (Asn.row e sv xs)) (hn : 0 < xs.length) : NN sv xs.length := (h.row_view i hi).nn hn
theorem St.row_len {α : Type} [Cod α] {e : TypeId} {sv : Value} {xs : List α} (h : St w0 N F L a w) (i : Nat) (hi : L[i]? = some (Asn.row e sv xs)) : xs.length ≤ maxLen := (h.row_view i hi).1.1
theorem St.retR {α : Type} [Cod α] {e : TypeId} {sv : Value} {xs : List α} {p : Prop} (h : St w0 N F L a w) (i : Nat) (hi : L[i]? = some (Asn.row e sv xs)) (hp : p) : RetR w0 e xs p (.returned sv) w := by
  refine h.retA ⟨h.row_sl i hi, hp⟩ ?_
  have := h.pick [i] (by simp)
  simpa [hi] using this
theorem clr {α : Type} [Cod α] {f : FuncId} {args : Array Operand} {ats : Array TypeId} {vs : List Value} {e : TypeId} {xs : List α} {p : Prop} (h : St w0 N F L a w) (hc : ∀ args w, (callFunc f args).run P w = .ok (.enter f args) w) (ha : evs F args.toList = some vs)
    (ct : ∀ w, Below w0.heap.size w0 w → (∃ U, Sep w0.heap.size w L U) → Calls P f vs.toArray w (RetR w e xs p)) (hd : Nat.blt d N = true) (k : ∀ sv a w, p → St w0 N ((d, sv) :: F) (.row e sv xs :: L) a w → wpList P ops Q rest a w) :
    wpList P ops Q (⟨some d, .call ⟨.value (.func f), args, ats⟩, ty, pos, aft, none⟩ :: rest) a w :=
  cl h hc ha ct hd fun v a w hv h => k v a w hv.2 h
theorem lE {α : Type} [Cod α] {z : Value} {z0 : α} (hz : z.cells.toList = Cod.enc z0) (hn : Cod.n α = 1) (n : Nat) : (madeCells z.cells (n * 1)).toList = flat (List.replicate n z0) := by
  have hl : (Cod.enc z0).length = 1 := by rw [Cod.len, hn]
  match hc : Cod.enc z0, hl with
  | [c], _ =>
    have hz' : z.cells = #[c] := by
      have : z.cells.toList = [c] := by rw [hz, hc]
      rw [← Array.toArray_toList (xs := z.cells), this]
    have hf : flat (List.replicate n z0) = List.replicate n c := by
      induction n with
      | zero => rfl
      | succ n ih => simp only [flat, List.replicate_succ, List.flatMap_cons, hc] at *; rw [ih]; rfl
    rw [hf, hz']
    apply List.ext_getElem
    · simp [madeCells]
    · intro i h1 h2
      have h0 : ∀ k, k % 1 = 0 := fun k => by omega
      simp [madeCells, h0]
theorem jX {α : Type} [Cod α] {t e : TypeId} {bytes n : Nat} {zero : List Value} {x y : Operand} {kl kc : IntKind} (z0 : α) (hone : Cod.n α = 1) (hT : SlT P t e (Cod.n α) bytes zero) (hz0 : zero = Cod.enc z0) (hx : ev F x = some (.int kl (n : Int))) (hy : ev F y = some (.int kc (n : Int))) (hn : bytes * n ≤ 140737488355328) (hn' : n ≤ 4611686018427387904) :
    gP P w0 F [] (.makeSlice t x y) (fun v => NN v n) (fun v => [.row e v (List.replicate n z0)]) := by
  intro o a w U K Q ho ha hb hs k
  obtain ⟨ht, i, z, hi, hz, hzc, hsz, hby, hzl, hn4, hb4⟩ := hT
  have hr := run_make (P := P) w t e i z ht hi hz kl kc (n : Int) (n : Int) (by omega) (by omega) (by
    rw [hby]
    have h2 : ((bytes * n : Nat) : Int) ≤ 281474976710656 := by omega
    rwa [Int.natCast_mul] at h2) (by omega)
  simp only [Int.toNat_natCast] at hr
  have hrun : (execOp a.eval o).run P w = .ok (.value (.slice (some ⟨w.heap.size, 0, none⟩) n n)) (w.alloc (.cells (madeCells z.cells (n * i.size)) e)) := by
    rw [execOp]
    simp only [ho]
    rw [ha x _ hx, ha y _ hy, Sem.run_bind, hr]
    rfl
  unfold Oper.wp
  rw [hrun]
  have hcells : (madeCells z.cells (n * i.size)).toList = flat (List.replicate n z0) := by
    rw [hsz, hone]; exact lE (by rw [hzc, hz0]) hone n
  have hfl : (flat (List.replicate n z0)).length = n * Cod.n α := by rw [bM, List.length_replicate]
  refine k _ _ (fun k => k = w.heap.size) ⟨_, _, _, rfl⟩ ((fK w _).weak fun _ h => h.elim) ⟨fun k => k = w.heap.size, fun _ => False, fun k => by simp, fun _ _ => id, fun k hk => by simp only [hk, World.size_alloc]; have := hb.size; omega, ?_, fun _ => id⟩
  refine ⟨⟨by rw [bM], .inr ⟨w.heap.size, n, madeCells z.cells (n * i.size), by simp, Nat.zero_le _, ?_, by simp, by simp [maxLen]; omega, ?_, ?_⟩⟩, fun k => ?_⟩
  · show (w.heap.push _)[w.heap.size]? = _; simp
  · rw [← Array.length_toList, hcells, hfl]
  · rw [hcells, List.length_replicate]; exact List.take_of_length_le (by rw [hfl]; exact Nat.le_refl _)
  · simp [Value.ownBlock, eq_comm]
theorem s_cut {α : Type} [Cod α] {t e e' : TypeId} {x y : Operand} {sv : Value} {xs : List α} {k : IntKind} {n : Nat} (hu : ∀ w, (underlying t).run P w = .ok (.slice e') w) (hz : ∀ w, (sizeOf e').run P w = .ok (Cod.n α) w) (hx : ev F x = some sv) (hy : ev F y = some (.int k (n : Int))) (hn : n ≤ xs.length) :
    gP P w0 F [.row e sv xs] (.slice t x none (some y) none) (fun v => SL v n) (fun v => [.row e v (xs.take n)]) := by
  intro o a w U K Q ho ha hb hs kk
  obtain ⟨f, V, hU, hd, hlt, ⟨⟨hlen, hown⟩, hf1⟩, hV⟩ := hs
  unfold Oper.wp
  rcases hown with ⟨rfl, h0⟩ | ⟨g, cap, cur, rfl, hbg, hh, hcap, hcm, hcs, htk⟩
  · have hn0 : n = 0 := by omega
    subst hn0
    have hxs : xs = [] := List.eq_nil_of_length_eq_zero h0
    subst hxs
    have hrun : (execOp a.eval o).run P w = .ok (.value (.slice none 0 0)) w := by
      simp [execOp, ho, Instr.sliceAt, Instr.slice, Instr.sliceBounds, Instr.sliceBound, asIntOf, ha x _ hx, ha y _ hy, hu w, hz w]
    rw [hrun]
    exact kk _ w U ⟨_, _, rfl⟩ (Moves.same w U) ⟨f, V, hU, hd, hlt, ⟨⟨by simp [flat], .inl ⟨rfl, rfl⟩⟩, hf1⟩, hV⟩
  · have hrun : (execOp a.eval o).run P w = .ok (.value (.slice (some ⟨g, 0, none⟩) n cap)) w := by
      have h1 : (n : Int) ≤ (cap : Int) := by omega
      by_cases hc0 : cap = 0
      · simp [execOp, ho, Instr.sliceAt, Instr.slice, Instr.sliceBounds, Instr.sliceBound, asIntOf, ha x _ hx, ha y _ hy, hu w, hz w, h1, hc0]; omega
      · simp [execOp, ho, Instr.sliceAt, Instr.slice, Instr.sliceBounds, Instr.sliceBound, asIntOf, ha x _ hx, ha y _ hy, hu w, hz w, h1, hc0, Addr.add]
        omega
    rw [hrun]
    have hlt' : (xs.take n).length = n := by rw [List.length_take]; omega
    refine kk _ w U ⟨_, _, rfl⟩ (Moves.same w U) ⟨f, V, hU, hd, hlt, ⟨⟨by rw [bM], .inr ⟨g, cap, cur, by rw [hlt'], hbg, hh, by rw [hlt']; omega, hcm, hcs, ?_⟩⟩, hf1⟩, hV⟩
    have : flat xs = flat (xs.take n) ++ flat (xs.drop n) := by rw [← fL, List.take_append_drop]
    have h2 : cur.toList.take (n * Cod.n α) = (flat xs).take (n * Cod.n α) := by
      rw [← htk, List.take_take, Nat.min_eq_left (Nat.mul_le_mul_right _ hn)]
    rw [hlt', h2, this, List.take_left' (by rw [bM, hlt'])]
theorem r_sliceA {t e' : TypeId} {x y : Operand} {b m n : Nat} {k : IntKind} (hu : ∀ w, (underlying t).run P w = .ok (.array m e') w) (hz : ∀ w, (sizeOf e').run P w = .ok 1 w) (hx : ev F x = some (ptr b 0)) (hy : ev F y = some (.int k (n : Int))) (hn : n ≤ m) :
    Rd P w0 F [] (.slice t x none (some y) none) (.slice (some ⟨b, 0, none⟩) n m) :=
  dB fun o a w ho ha => by
    have h1 : (n : Int) ≤ (m : Int) := by omega
    have h2 : ¬ (m < n) := by omega
    by_cases hm : m = 0
    · subst hm
      have : n = 0 := by omega
      subst this
      simp [execOp, ho, Instr.sliceAt, Instr.sliceBounds, Instr.sliceBound, asIntOf, ha x _ hx, ha y _ hy, hu w, hz w, Instr.sureAddr, ptr]
    · simp [execOp, ho, Instr.sliceAt, Instr.sliceBounds, Instr.sliceBound, asIntOf, ha x _ hx, ha y _ hy, hu w, hz w, Instr.sureAddr, ptr, h1, hm, Addr.add, h2, hn]
theorem mW : ∀ l : List UInt8, flat l = (l.map fun c => ((c.toNat : Nat) : Int)).map (Value.int .u8)
  | [] => rfl
  | b :: l => by
    have := mW l
    simp only [flat, List.flatMap_cons, List.map_cons] at *
    rw [this]; rfl
theorem jQ : ∀ (bs : List UInt8) (r : ByteArray), (bs.map fun b => ((b.toNat : Nat) : Int)).foldl (fun (r : ByteArray) (n : Int) => r.push (UInt8.ofNat n.toNat)) r = ⟨(r.data.toList ++ bs).toArray⟩
  | [], r => by simp
  | b :: bs, r => by
    simp only [List.map_cons, List.foldl_cons]
    rw [jQ bs]
    simp [ByteArray.push]
theorem r_strA {src dst e' : TypeId} {x : Operand} {b n m : Nat} {l : List UInt8} {cs : List Value} {e : TypeId} (hs : P.underlying src = some (.slice e')) (he : P.underlying e' = some (.int .u8)) (hd : P.underlying dst = some .string)
    (hx : ev F x = some (.slice (some ⟨b, 0, none⟩) n m)) (hc : cs.take n = flat l) (hl : l.length = n) : Rd P w0 F [Asn.blk b cs e] (.convert src dst x) (.string ⟨l.toArray⟩) := by
  intro o a w U ho ha hb hsep
  obtain ⟨f, V, _, _, _, ⟨_, hh⟩, _⟩ := hsep
  have hfl := mW l
  have hld : (loadCells (⟨b, 0, none⟩ : Addr) n).run P w = .ok ((l.map fun c => ((c.toNat : Nat) : Int)).map (Value.int .u8)).toArray w := by
    have h0 := run_loadCells_list (P := P) w ⟨b, 0, none⟩ (flat l) (fun j v hj => by
      rw [Addr.add_lit, kN hh, Nat.zero_add]
      rw [← hc, List.getElem?_take] at hj
      split at hj
      · exact hj
      · cases hj)
    have hone : Cod.n UInt8 = 1 := rfl
    rw [bM, hl, hone, Nat.mul_one, hfl] at h0
    exact h0
  have := run_bytesToString (P := P) w ⟨b, 0, none⟩ n m _ hld
  rw [jQ] at this
  simp only [execOp, ho, ha x _ hx, Sem.run_bind, run_convert_bytes_string w src dst e' _ _ _ hs he hd, this, Result.andThen_ok, Sem.run_pure]
  rfl
theorem r_str {src dst e' e : TypeId} {x : Operand} {sv : Value} {l : List UInt8} (hs : P.underlying src = some (.slice e')) (he : P.underlying e' = some (.int .u8)) (hd : P.underlying dst = some .string) (hx : ev F x = some sv) :
    Rd P w0 F [Asn.row e sv l] (.convert src dst x) (.string ⟨l.toArray⟩) := by
  intro o a w U ho ha hb hsep
  obtain ⟨f, V, _, _, _, ⟨hr, _⟩, _⟩ := hsep
  have hv := fg hr
  by_cases hne : l = []
  · subst hne
    obtain ⟨b, c, rfl⟩ := hv.sl
    cases b with
    | none =>
      simp only [execOp, ho, ha x _ hx, Sem.run_bind, run_convert_bytes_string w src dst e' _ _ _ hs he hd]
      rfl
    | some q =>
      have := run_bytesToString (P := P) w q 0 c [] (by simp [loadCells, loadCellsFrom])
      simp only [List.length_nil, execOp, ho, ha x _ hx, Sem.run_bind, run_convert_bytes_string w src dst e' _ _ _ hs he hd, this, Result.andThen_ok, Sem.run_pure]
      rfl
  · obtain ⟨g, off, c, rfl, hc⟩ := kg hv hne
    have hfl := mW l
    have hld := run_loadCells_list (P := P) w ⟨g, off, none⟩ (flat l) hc
    rw [bM, hfl] at hld
    have hone : Cod.n UInt8 = 1 := rfl
    rw [hone, Nat.mul_one] at hld
    have := run_bytesToString (P := P) w ⟨g, off, none⟩ l.length c _ hld
    rw [jQ] at this
    simp only [execOp, ho, ha x _ hx, Sem.run_bind, run_convert_bytes_string w src dst e' _ _ _ hs he hd, this, Result.andThen_ok, Sem.run_pure]
    rfl
theorem s_copy {α : Type} [Cod α] {t tt e e1 e2 : TypeId} {x y : Operand} {sv tv : Value} {xs ys : List α} (hu : P.underlying t = some (.slice e)) (hi : (P.info? e).map (·.size) = some 1) (hone : Cod.n α = 1) (hx : ev F x = some sv) (hy : ev F y = some tv) (hl : ys.length ≤ xs.length) :
    gP P w0 F [Asn.row e1 sv xs, Asn.row e2 tv ys] (.call ⟨.builtin .copy, #[x, y], #[t, tt]⟩) (· = .int .i64 ys.length) (fun _ => [Asn.row e1 sv (ys ++ xs.drop ys.length), Asn.row e2 tv ys]) := by
  intro o a w U K Q ho ha hb hs k
  obtain ⟨f, V, hU, hd, hlt, ⟨hown, hf1⟩, f2, V2, hU2, hd2, hlt2, ⟨hown2, hf2⟩, hnil⟩ := hs
  have hv2 := fg hown2
  have hsame : ys = [] → ys ++ xs.drop ys.length = xs := fun h => by subst h; simp
  by_cases hne : ys = []
  · have hrun : (execOp a.eval o).run P w = .ok (.value (.int .i64 ys.length)) w := by
      subst hne
      obtain ⟨b, c, h1⟩ := hv2.sl
      obtain ⟨b', c', h2⟩ := (fg hown).sl
      have := run_copy_none (P := P) w t tt o.type e b' b xs.length c' 0 c hu hi (by simp)
      simp only [List.length_nil] at h1
      simp only [execOp, ho, resolve, invoke, builtin, List.map_toArray, List.map_cons, List.map_nil, Sem.run_bind, Sem.run_pure, Result.andThen_ok, ha x _ hx, ha y _ hy, h1, h2, this]
      rfl
    unfold Oper.wp
    rw [hrun]
    refine k _ w U rfl (Moves.same w U) ⟨f, V, hU, hd, hlt, ⟨by rw [hsame hne]; exact hown, hf1⟩, f2, V2, hU2, hd2, hlt2, ⟨hown2, hf2⟩, hnil⟩
  · obtain ⟨g2, off2, c2, rfl, hc⟩ := kg hv2 hne
    have hyl : 0 < ys.length := List.length_pos_iff.2 hne
    obtain ⟨hlen, hown1⟩ := hown
    rcases hown1 with ⟨_, h0⟩ | ⟨g, cap, cur, rfl, hbg, hh, hcap, hcm, hcs, htk⟩
    · omega
    · have hfy : (flat ys).length = ys.length := by rw [bM, hone, Nat.mul_one]
      have hrun0 := run_copy_row (P := P) w t tt o.type e g 0 xs.length cap ⟨g2, off2, none⟩ ys.length c2 cur e1 (flat ys) hu hi hh (by rw [hfy]; exact (Nat.min_eq_left hl).symm) hc (by rw [hfy, hcs, hone]; omega) (lK ys)
      have hrun : (execOp a.eval o).run P w = .ok (.value (.int .i64 ys.length)) (w.setRow g (cur.toList.take 0 ++ flat ys ++ cur.toList.drop (0 + (flat ys).length)).toArray) := by
        simp only [execOp, ho, resolve, invoke, builtin, List.map_toArray, List.map_cons, List.map_nil, Sem.run_bind, Sem.run_pure, Result.andThen_ok, ha x _ hx, ha y _ hy, hrun0, hfy]
        rfl
      unfold Oper.wp
      rw [hrun]
      have hlen' : (ys ++ xs.drop ys.length).length = xs.length := by simp; omega
      have hxl : (flat xs).length = xs.length := by rw [bM, hone, Nat.mul_one]
      refine k _ _ U rfl (iM ((hU g).2 (.inl ((hf1 g).2 rfl)))) ⟨f, V, hU, hd, fun k hk => by simpa using hlt k hk, ⟨⟨by rw [bM], .inr ⟨g, cap, _, by rw [hlen'], hbg, setRow_heap w g _ _ e1 _ hh, by rw [hlen']; exact hcap, hcm, ?_, ?_⟩⟩, hf1⟩, ?_⟩
      · simp only [List.take_zero, List.nil_append, Nat.zero_add, List.size_toArray, List.length_append, List.length_drop, Array.length_toList, hfy, hcs, hone]; omega
      · simp only [List.take_zero, List.nil_append, Nat.zero_add]
        rw [hlen', hone, Nat.mul_one, hfy, fL]
        have h1 : cur.toList.take xs.length = flat xs := by rw [← htk, hone, Nat.mul_one]
        have h2 : flat (xs.drop ys.length) = (cur.toList.take xs.length).drop ys.length := by
          rw [h1]
          have : flat xs = flat (xs.take ys.length) ++ flat (xs.drop ys.length) := by rw [← fL, List.take_append_drop]
          rw [this, List.drop_left' (by rw [bM, hone, Nat.mul_one, List.length_take]; omega)]
        rw [h2, List.take_append, List.take_of_length_le (by rw [hfy]; exact hl), hfy, List.drop_take]
      · refine ⟨f2, V2, hU2, hd2, fun k hk => by simpa using hlt2 k hk, ⟨?_, hf2⟩, hnil⟩
        obtain ⟨h1, h2⟩ := hown2
        refine ⟨h1, ?_⟩
        rcases h2 with h2 | ⟨g', cap', cur', hv', hbg', hh', r⟩
        · exact .inl h2
        · refine .inr ⟨g', cap', cur', hv', hbg', ?_, r⟩
          rw [setRow_other]
          · exact hh'
          · intro e
            subst e
            exact hd g' ((hf1 g').2 rfl) ((hU2 g').2 (.inl ((hf2 g').2 (by rw [hv']; rfl))))
end
end Go.Sx
