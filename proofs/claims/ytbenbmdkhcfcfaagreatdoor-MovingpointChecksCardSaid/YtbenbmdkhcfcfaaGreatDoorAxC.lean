/- A part of the proof of movingpointChecks. -/
import Derived.Test.YtbenbmdkhcfcfaaGreatDoorH6
import Derived.Test.YtbenbmdkhcfcfaaGreatDoorProg
set_option linter.unusedVariables false
set_option linter.unusedSimpArgs false
open Go.Proofs.Tryz renaming runUnderlying25 → uu25, runUnderlying27 → uu27, runUnderlying53 → uu53, runUnderlying71 → uu71, runUnderlying79 → uu79, runUnderlying86 → uu86, runUnderlying126 → uu126, runUnderlying169 → uu169, runUnderlying176 → uu176, runUnderlying182 → uu182, runUnderlying199 → uu199, runUnderlying206 → uu206, runUnderlying264 → uu264, runUnderlying321 → uu321
namespace Go.Sx
open Go Go.RowKit
class Sz (P : Program) (t : TypeId) (n : outParam Nat) : Prop where h : ∀ w, (sizeOf t).run P w = .ok n w
class Un (P : Program) (t : TypeId) (d : outParam TypeDesc) : Prop where h : ∀ w, (underlying t).run P w = .ok d w
class Fl (P : Program) (s : TypeId) (f : Nat) (ft : outParam TypeId) (off : outParam Nat) : Prop where h : ∃ (fs : Array Field) (fld : Field), (∀ w, (underlying s).run P w = .ok (.struct fs) w) ∧ fs[f]? = some fld ∧ fld.type = ft ∧ fld.offset = off
class Ag (P : Program) (t : TypeId) (b : outParam Bool) : Prop where h : ∀ w, (isAgg t).run P w = .ok b w
class Zc (P : Program) (t : TypeId) (cs : outParam (List Value)) : Prop where h : ∃ z : Value, (∀ w, (zeroValue t).run P w = .ok z w) ∧ z.cells.toList = cs
class Cf (P : Program) (f : FuncId) : Prop where h : ∀ args w, (callFunc f args).run P w = .ok (.enter f args) w
class Mt (P : Program) (T : TypeId) (u : Value) (name : String) (f : outParam FuncId) : Prop where h : ∀ w, (method (P.types.size + Made.depth) T u name).run P w = .ok (f, u) w
class Nl (P : Program) (T : TypeId) (u : Value) (name : String) : Prop where h : ∀ w, (nilAhead (P.types.size + Made.depth) T u name).run P w = .ok (some false) w
class Pp (P : Program) (t : TypeId) : Prop where h : P.underlying t = some (.pointer (P.pointee t))
class Sh (P : Program) (t : TypeId) (α : outParam Type) (val : outParam (α → Value)) : Prop where h : True
class Ep (P : Program) (t : TypeId) (α : outParam Type) (d : outParam (DecidableEq α)) (val : outParam (α → Value)) : Prop where h : @EqP P t α d val
class Cel (v : Value) (cs : outParam (List Value)) : Prop where h : v.cells.toList = cs
class Dc (cs : List Value) (v : outParam Value) : Prop where h : mkv true cs = v
instance yAxC_1 (x : GI) : Cel (vI x) (cI x) := ⟨rfl⟩
instance yAxC_2 (x : GQ) : Cel (vQ x) (cQ x) := ⟨rfl⟩
instance yAxC_3 (x : GR) : Cel (vR x) (cR x) := ⟨rfl⟩
instance yAxC_4 (x : Iv) : Cel (vV x) (cV x) := ⟨rfl⟩
instance yAxC_5 (x : Qd) : Cel (vD x) (cD x) := ⟨rfl⟩
instance yAxC_6 (x : Ln) : Cel (vN x) (cN x) := ⟨rfl⟩
instance yAxC_7 (x : U Ln) : Cel (vUN x) (cUN x) := ⟨rfl⟩
instance yAxC_8 (x : Bd) : Cel (vW x) (cW x) := ⟨rfl⟩
instance yAxC_9 : Cel (.agg #[]) [] := ⟨rfl⟩
instance yAxC_10 (k : IntKind) (n : Int) : Cel (.int k n) [.int k n] := ⟨rfl⟩
instance yAxC_11 (b : Bool) : Cel (.bool b) [.bool b] := ⟨rfl⟩
instance yAxC_12 (b k : Nat) : Cel (ptr b k) [ptr b k] := ⟨rfl⟩
instance yAxC_13 (s : ByteArray) : Cel (.string s) [.string s] := ⟨rfl⟩
instance yAxC_14 (x : GI) : Dc (cI x) (vI x) := ⟨rfl⟩
instance yAxC_15 (x : GQ) : Dc (cQ x) (vQ x) := ⟨rfl⟩
instance yAxC_16 (x : GR) : Dc (cR x) (vR x) := ⟨rfl⟩
instance yAxC_17 (x : Iv) : Dc (cV x) (vV x) := ⟨rfl⟩
instance yAxC_18 (x : Qd) : Dc (cD x) (vD x) := ⟨rfl⟩
instance yAxC_19 (x : Ln) : Dc (cN x) (vN x) := ⟨rfl⟩
instance yAxC_20 (x : U Ln) : Dc (cUN x) (vUN x) := ⟨rfl⟩
instance yAxC_21 (x : Bd) : Dc (cW x) (vW x) := ⟨rfl⟩
abbrev iN (n : Nat) : Value := .int .i64 (n : Int)
def zc : List Nat → List Value
  | [] => []
  | 1 :: l => .bool false :: zc l
  | 2 :: l => .bool false :: .string ⟨#[]⟩ :: zc l
  | _ :: l => .int .i64 0 :: zc l
theorem og {p : Prop} (h : p := by first | omega | (simp at hg; omega) | grind) : p := h
theorem asA {p : Prop} (h : p := by assumption) : p := h
theorem rfZ {p : Prop} (h : p := by rfl) : p := h
theorem clA {p : Prop} (h : p := by infer_instance) : p := h
theorem ex {p : Prop} (h : p := by first | exact ec rfl hg | rfl) : p := h
section
variable {P : Program} {w0 w : World} {F : List (Nat × Value)} {L : List Asn}
theorem exs_nil : evs F [] = some [] := rfl
theorem exs_cons {x : Operand} {xs : List Operand} {v : Value} {vs : List Value} (h : ev F x = some v) (hs : evs F xs = some vs) : evs F (x :: xs) = some (v :: vs) := i7 h hs
theorem exs {p : Prop} (h : p := by first | (repeat (first | exact exs_nil | (apply exs_cons; exact ex))) | rfl) : p := h
theorem slA {p : Prop} (h : p := by first | assumption | exact View.sl (by assumption) | exact St.row_sl h 0 rfl | exact St.row_sl h 1 rfl | exact St.row_sl h 2 rfl | exact St.row_sl h 3 rfl | exact St.row_sl h 4 rfl | exact St.row_sl h 5 rfl | exact St.row_sl h 6 rfl) : p := h
theorem nn_v {α : Type} [Cod α] {sv : Value} {xs : List α} {i : Nat} (h : View w sv xs) (hi : i < xs.length) : NN sv xs.length ∧ i < xs.length := ⟨h.nn hi, hi⟩
theorem nn_r {α : Type} [Cod α] {N : Nat} {a : Act} {e : TypeId} {sv : Value} {xs : List α} {i : Nat} (h : St w0 N F L a w) (j : Nat) (hj : L[j]? = some (Asn.row e sv xs)) (hi : i < xs.length) : NN sv xs.length ∧ i < xs.length := ⟨h.row_nn j hj (Nat.zero_lt_of_lt hi), hi⟩
theorem nn_n {sv : Value} {n i : Nat} (h : NN sv n) (hi : i < n) : NN sv n ∧ i < n := ⟨h, hi⟩
theorem nnA {p : Prop} (h : p := by first | exact nn_v (by assumption) og | exact nn_r h 0 rfl og | exact nn_r h 1 rfl og | exact nn_r h 2 rfl og | exact nn_r h 3 rfl og | exact nn_r h 4 rfl og | exact nn_r h 5 rfl og | exact nn_r h 6 rfl og | exact nn_n (by assumption) og) : p := h
theorem nw_v {α : Type} [Cod α] {sv : Value} {xs : List α} (h : View w sv xs) (hi : 0 < xs.length) : NN sv xs.length := h.nn hi
theorem nnB {p : Prop} (h : p := by first | exact nw_v (by assumption) og | exact St.row_nn h 0 rfl og | exact St.row_nn h 1 rfl og | exact St.row_nn h 2 rfl og | exact St.row_nn h 3 rfl og | exact St.row_nn h 4 rfl og | exact St.row_nn h 5 rfl og | exact St.row_nn h 6 rfl og | assumption) : p := h
variable {x y ix : Operand} {t e tt s : TypeId} {k : IntKind}
theorem a_ia {sv : Value} {n i m : Nat} [hu : Un P t (.slice e)] [hz : Sz P e m] (hx : ev F x = some sv) (hi : ev F ix = some (.int k (i : Int))) (hs : NN sv n ∧ i < n) : Rd P w0 F [] (.indexAddr t x ix) (sel sv (i * m + 0)) := fO hu.h hz.h hx hi hs.1 hs.2
theorem a_fa {f ft off n b k k' : Nat} [hu : Fl P s f ft off] [hz : Sz P ft n] (hn : Nat.beq n 0 = false) (hx : ev F x = some (ptr b k)) (hk : k + off = k') : Rd P w0 F [] (.fieldAddr s x f) (ptr b k') := by
  obtain ⟨fs, fld, h1, h2, rfl, rfl⟩ := hu.h
  exact fa h1 h2 hz.h hn hx hk
theorem a_fs {f ft off n m b k k' : Nat} {sv : Value} [hu : Fl P s f ft off] [hz : Sz P ft n] (hn : Nat.beq n 0 = false) (hx : ev F x = some (sel sv (b + k))) (hs : NN sv m) (hk : k + off = k') : Rd P w0 F [] (.fieldAddr s x f) (sel sv (b + k')) := by
  obtain ⟨fs, fld, h1, h2, rfl, rfl⟩ := hu.h
  exact Go.Sx.fs h1 h2 hz.h hn hs hx (by rw [← hk, Nat.add_assoc])
theorem a_len {sv : Value} {n : Nat} [hu : Un P t (.slice e)] (hx : ev F x = some sv) (hs : SL sv n) : Rd P w0 F [] (.call ⟨.builtin .len, #[x], #[t]⟩) (.int .i64 (n : Int)) := fh hu.h hx hs
theorem a_ldW {n b : Nat} {cs : List Value} {v : Value} [ht : Ag P t true] [hz : Sz P t n] (hx : ev F x = some (ptr b 0)) (hn : Nat.blt 0 n = true) (hl : cs.length = n) [hv : Dc cs v] : Rd P w0 F [Asn.blk b cs e] (.load t x) v :=
  ir ht.h hz.h hx hn (by rw [List.drop_zero, ← hl, List.take_length]) (by rw [List.drop_zero, ← hl, List.take_length]; exact hv.h)
theorem a_ldS {α : Type} {val : α → Value} {y : α} {agg : Bool} {n b k : Nat} {cs : List Value} [ht : Ag P t agg] [hz : Sz P t n] [Sh P t α val] (hx : ev F x = some (ptr b k)) (hn : Nat.blt 0 n = true) (hl : ((cs.drop k).take n).length = n) (hv : mkv agg ((cs.drop k).take n) = val y) : Rd P w0 F [Asn.blk b cs e] (.load t x) (val y) := ir ht.h hz.h hx hn hl hv
theorem a_ld1 {n b k : Nat} {cs : List Value} {v : Value} [ht : Ag P t false] [hz : Sz P t n] (hx : ev F x = some (ptr b k)) (hn : Nat.blt 0 n = true) (hl : ((cs.drop k).take n).length = n) (hv : cs[k]? = some v) : Rd P w0 F [Asn.blk b cs e] (.load t x) v :=
  ir ht.h hz.h hx hn hl (by
    have : ((cs.drop k).take n)[0]? = some v := by
      rw [List.getElem?_take_of_lt (Nat.le_of_ble_eq_true hn), List.getElem?_drop]; simpa using hv
    cases h : (cs.drop k).take n with
    | nil => rw [h] at this; simp at this
    | cons u us => rw [h] at this; simp at this; simp [mkv, this])
theorem a_ldRS {α β : Type} [Cod α] {val : β → Value} {y : β} {agg : Bool} {n k m : Nat} {sv : Value} {xs : List α} {i : Nat} {u : α} [ht : Ag P t agg] [hz : Sz P t n] [Sh P t β val] (hx : ev F x = some (sel sv (i * m + k))) (hq : Cod.n α = m) (hi : xs[i]? = some u) (hn : Nat.blt 0 n = true)
    (hl : (((Cod.enc u).drop k).take n).length = n) (hv : mkv agg (((Cod.enc u).drop k).take n) = val y) : Rd P w0 F [Asn.row e sv xs] (.load t x) (val y) := fj ht.h hz.h hi hx (by rw [hq]) hn hl hv
theorem a_ldVS {α β : Type} [Cod α] {val : β → Value} {y : β} {agg : Bool} {n k m : Nat} {sv : Value} {xs : List α} {i : Nat} {u : α} [ht : Ag P t agg] [hz : Sz P t n] [Sh P t β val] (hx : ev F x = some (sel sv (i * m + k))) (hw : View w0 sv xs) (hq : Cod.n α = m) (hi : xs[i]? = some u) (hn : Nat.blt 0 n = true)
    (hl : (((Cod.enc u).drop k).take n).length = n) (hv : mkv agg (((Cod.enc u).drop k).take n) = val y) : Rd P w0 F [] (.load t x) (val y) := q3 ht.h hz.h hw hi hx (by rw [hq]) hn hl hv
theorem one_of {cs : List Value} {n k : Nat} {v : Value} (hn : Nat.blt 0 n = true) (hv : cs[k]? = some v) : mkv false ((cs.drop k).take n) = v := by
  have : ((cs.drop k).take n)[0]? = some v := by
    rw [List.getElem?_take_of_lt (Nat.le_of_ble_eq_true hn), List.getElem?_drop]; simpa using hv
  cases h : (cs.drop k).take n with
  | nil => rw [h] at this; simp at this
  | cons u us => rw [h] at this; simp at this; simp [mkv, this]
theorem a_ldR1 {α : Type} [Cod α] {n k m : Nat} {sv v : Value} {xs : List α} {i : Nat} {u : α} [ht : Ag P t false] [hz : Sz P t n] (hx : ev F x = some (sel sv (i * m + k))) (hq : Cod.n α = m) (hi : xs[i]? = some u) (hn : Nat.blt 0 n = true)
    (hl : (((Cod.enc u).drop k).take n).length = n) (hv : (Cod.enc u)[k]? = some v) : Rd P w0 F [Asn.row e sv xs] (.load t x) v := fj ht.h hz.h hi hx (by rw [hq]) hn hl (one_of hn hv)
theorem a_ldV1 {α : Type} [Cod α] {n k m : Nat} {sv v : Value} {xs : List α} {i : Nat} {u : α} [ht : Ag P t false] [hz : Sz P t n] (hx : ev F x = some (sel sv (i * m + k))) (hw : View w0 sv xs) (hq : Cod.n α = m) (hi : xs[i]? = some u) (hn : Nat.blt 0 n = true)
    (hl : (((Cod.enc u).drop k).take n).length = n) (hv : (Cod.enc u)[k]? = some v) : Rd P w0 F [] (.load t x) v := q3 ht.h hz.h hw hi hx (by rw [hq]) hn hl (one_of hn hv)
theorem giA {p : Prop} (h : p := by first | exact md og | exact mb og) : p := h
theorem hqA {p : Prop} (h : p := by rfl) : p := h
theorem hkA {p : Prop} (h : p := by first | exact Nat.zero_add _ | exact Nat.add_zero _ | rfl) : p := h
theorem a_addN {a b : Nat} (hx : ev F x = some (.int .i64 (a : Int))) (hy : ev F y = some (.int .i64 (b : Int))) (h : a + b < 9223372036854775808) : Rd P w0 F [] (.binOp .add t x y tt) (.int .i64 ((a + b : Nat) : Int)) := dq hx hy (by rw [IntKind.wrap_i64]; omega)
theorem a_add1 {a : Nat} (hx : ev F x = some (.int .i64 (a : Int))) (hy : ev F y = some (.int .i64 1)) (h : a < 9223372036854775807) : Rd P w0 F [] (.binOp .add t x y tt) (.int .i64 ((a + 1 : Nat) : Int)) := dq hx hy (by rw [IntKind.wrap_i64]; omega)
theorem a_sub1 {a : Nat} (hx : ev F x = some (.int .i64 (a : Int))) (hy : ev F y = some (.int .i64 1)) (h : 0 < a ∧ a ≤ 9223372036854775807) : Rd P w0 F [] (.binOp .sub t x y tt) (.int .i64 ((a - 1 : Nat) : Int)) := e7 hx hy (by rw [IntKind.wrap_i64]; omega)
theorem a_eqlT {α : Type} {d : DecidableEq α} {val : α → Value} {b c : α} [he : Ep P t α d val] (hx : ev F x = some (val b)) (hy : ev F y = some (val c)) : Rd P w0 F [] (.binOp .eql t x y tt) (.bool (decide (b = c))) := r_eqlT he.h hx hy
theorem a_neqT {α : Type} {d : DecidableEq α} {val : α → Value} {b c : α} [he : Ep P t α d val] (hx : ev F x = some (val b)) (hy : ev F y = some (val c)) : Rd P w0 F [] (.binOp .neq t x y tt) (.bool (!decide (b = c))) := r_neqT he.h hx hy
theorem tJ : bs 0 = ⟨#[]⟩ := rfl
theorem a_eqB0 {m : Nat} (hx : ev F x = some (.string (bs m))) (hy : ev F y = some (.string ⟨#[]⟩)) : Rd P w0 F [] (.binOp .eql t x y tt) (.bool (decide (m = 0))) := se hx (by rw [hy, tJ])
theorem a_neB0 {m : Nat} (hx : ev F x = some (.string (bs m))) (hy : ev F y = some (.string ⟨#[]⟩)) : Rd P w0 F [] (.binOp .neq t x y tt) (.bool (!decide (m = 0))) := sb hx (by rw [hy, tJ])
theorem a_nilS {sv : Value} {n q : Nat} (hx : ev F x = some (sel sv q)) (hn : NN sv n) : Rd P w0 F [] (.nilCheck x) (sel sv q) := r_nilS hn hx
theorem a_nilM {m : String} {T : TypeId} {u : Value} [hn : Nl P T u m] (hx : ev F x = some (.func (.method m) #[.iface T u] #[])) : Rd P w0 F [] (.nilCheck x) (.func (.method m) #[.iface T u] #[]) := r_nilM hx hn.h
theorem a_neqPS {sv : Value} {n q : Nat} [hu : Pp P t] (hx : ev F x = some (sel sv q)) (hn : NN sv n) : Rd P w0 F [] (.binOp .neq t x (.const (.pointer none)) tt) (.bool true) := r_neqPS hu.h hn hx
theorem a_neqPN [hu : Pp P t] (hx : ev F x = some (.pointer none)) : Rd P w0 F [] (.binOp .neq t x (.const (.pointer none)) tt) (.bool false) := mB hu.h hx
class On : Prop where t : True
theorem a_iaA [On] (i : Nat) {b o0 n m : Nat} [hu : Un P t (.array n e)] [hz : Sz P e m] (hx : ev F x = some (ptr b o0)) (hi : ev F ix = some (.int k (i : Int))) (h : Nat.blt i n = true) : Rd P w0 F [] (.indexAddr t x ix) (ptr b (o0 + i * m)) := ks hu.h hz.h hx hi (Nat.le_of_ble_eq_true h)
theorem a_addI [On] {a b : Int} (hx : ev F x = some (.int .i64 a)) (hy : ev F y = some (.int .i64 b)) (h : -9223372036854775808 ≤ a + b ∧ a + b < 9223372036854775808) : Rd P w0 F [] (.binOp .add t x y tt) (.int .i64 (a + b)) := dq hx hy (by rw [IntKind.wrap_i64]; omega)
class Bu (P : Program) (t : TypeId) (ix : List Nat) (vs : List Value) (v : outParam Value) : Prop where h : ∀ {w0 : World} {F : List (Nat × Value)} {parts : List (Nat × Operand)}, parts.map (·.1) = ix → evs F (parts.map (·.2)) = some vs → Rd P w0 F [] (.build t parts.toArray) v
inductive PX (F : List (Nat × Value)) : List (Nat × Operand) → List Nat → List Value → Prop
  | nil : PX F [] [] []
  | cons {i : Nat} {x : Operand} {v : Value} {ps : List (Nat × Operand)} {is : List Nat} {vs : List Value} (h : ev F x = some v) (k : PX F ps is vs) : PX F ((i, x) :: ps) (i :: is) (v :: vs)
theorem PX.ok {ps : List (Nat × Operand)} {is : List Nat} {vs : List Value} (h : PX F ps is vs) : ps.map (·.1) = is ∧ evs F (ps.map (·.2)) = some vs := by
  induction h with
  | nil => exact ⟨rfl, rfl⟩
  | cons h _ ih => exact ⟨by rw [List.map_cons, ih.1], i7 h ih.2⟩
theorem pxA {p : Prop} (h : p := by repeat (first | exact PX.nil | (apply PX.cons; exact ex))) : p := h
theorem a_bd {parts : List (Nat × Operand)} {ix : List Nat} {vs : List Value} {v : Value} (hx : PX F parts ix vs) (hb : Bu P t ix vs v) : Rd P w0 F [] (.build t parts.toArray) v := hb.h hx.ok.1 hx.ok.2
theorem Bu.of {ix : List Nat} {vs zero cells : List Value} {places : List (Nat × Nat)} {v : Value} (hb : BuildF P t zero places) (hf : lL (fun i => places[i]?) zero (ix.zip vs) = some cells) (hv : Value.agg cells.toArray = v) : Bu P t ix vs v := ⟨fun hi hx => bF hb hx (by rw [hi]; exact hf) hv⟩
class Ie (P : Program) (t : TypeId) : Prop where h : ∀ {w0 : World} {F : List (Nat × Value)} {x : Operand} {v : Value}, ev F x = some v → Rd P w0 F [] (.makeInterface t x) (.iface t v)
theorem a_if {v : Value} [hi : Ie P t] (hx : ev F x = some v) : Rd P w0 F [] (.makeInterface t x) (.iface t v) := hi.h hx
class Ub (P : Program) (t : TypeId) : Prop where h : P.underlying t = some .bool
theorem a_eqB [On] {b c : Bool} [hu : Ub P t] (hx : ev F x = some (.bool b)) (hy : ev F y = some (.bool c)) : Rd P w0 F [] (.binOp .eql t x y tt) (.bool (b == c)) := qj hu.h hx hy
theorem a_neB [On] {b c : Bool} [hu : Ub P t] (hx : ev F x = some (.bool b)) (hy : ev F y = some (.bool c)) : Rd P w0 F [] (.binOp .neq t x y tt) (.bool (b != c)) := nH hu.h hx hy
theorem rdA {p : Prop} (h : p := by first | exact aq ex | exact az ex | exact pe ex ex | exact r_neq ex ex | exact gp ex ex | exact r_gtr ex ex | exact sd ex ex | exact r_leq ex ex | exact r_not ex | exact cd ex rfZ | exact r_and rfl (fun e => ec rfl e) | exact r_or rfl (fun e => ec rfl (notI e)) | exact r_and ex (fun e => ec rfl (andI hg e)) | exact r_or ex (fun e => ec rfl (andI hg (notI e))) | exact a_fa rfZ ex hkA | exact a_ia ex ex nnA | exact a_fs rfZ ex nnB hkA | exact a_len ex slA | exact a_ldVS ex asA hqA giA rfZ rfZ rfZ | exact a_ldV1 ex asA hqA giA rfZ rfZ rfZ | exact a_add1 ex ex og | exact a_sub1 ex ex og | exact a_addN ex ex og | exact a_eqlT ex ex | exact a_neqT ex ex | exact se ex ex | exact sb ex ex | exact a_eqB0 ex ex | exact a_neB0 ex ex | exact a_nilS ex nnB | exact r_nilP ex | exact a_neqPN ex | exact a_neqPS ex nnB | exact pd ex | exact a_nilM ex | exact a_if ex | exact a_addI ex ex og | exact a_iaA 0 ex ex rfZ | exact a_iaA 1 ex ex rfZ | exact a_eqB ex ex | exact a_neB ex ex | exact a_bd pxA clA) : p := h
end
section
variable {P : Program} {t e : TypeId} {n k i m : Nat} {cs : List Value} {v : Value}
def L1 (P : Program) (cs : List Value) (e : TypeId) (k : Nat) (t : TypeId) (v : Value) : Prop := ∀ (w0 : World) (F : List (Nat × Value)) (x : Operand) (b : Nat), ev F x = some (ptr b k) → Rd P w0 F [Asn.blk b cs e] (.load t x) v
theorem l1W [Ag P t true] [Sz P t n] (hn : Nat.blt 0 n = true) (hl : cs.length = n) [Dc cs v] : L1 P cs e 0 t v := fun _ _ _ _ hx => a_ldW hx hn hl
theorem l1S {α : Type} {val : α → Value} {y : α} {agg : Bool} [Ag P t agg] [Sz P t n] [Sh P t α val] (hn : Nat.blt 0 n = true) (hl : ((cs.drop k).take n).length = n) (hv : mkv agg ((cs.drop k).take n) = val y) : L1 P cs e k t (val y) := fun _ _ _ _ hx => a_ldS hx hn hl hv
theorem l11 [Ag P t false] [Sz P t n] (hn : Nat.blt 0 n = true) (hl : ((cs.drop k).take n).length = n) (hv : cs[k]? = some v) : L1 P cs e k t v := fun _ _ _ _ hx => a_ld1 hx hn hl hv
theorem l1A {p : Prop} (h : p := by first | exact l1W rfZ rfZ | exact l1S rfZ rfZ rfZ | exact l11 rfZ rfZ rfZ) : p := h
def LR {α : Type} [Cod α] (P : Program) (xs : List α) (e : TypeId) (q : Nat) (t : TypeId) (v : Value) : Prop := ∀ (w0 : World) (F : List (Nat × Value)) (x : Operand) (sv : Value), ev F x = some (sel sv q) → Rd P w0 F [Asn.row e sv xs] (.load t x) v
theorem lrS {α β : Type} [Cod α] {val : β → Value} {y : β} {agg : Bool} {xs : List α} {u : α} [Ag P t agg] [Sz P t n] [Sh P t β val] (hq : Cod.n α = m) (hi : xs[i]? = some u) (hn : Nat.blt 0 n = true) (hl : (((Cod.enc u).drop k).take n).length = n) (hv : mkv agg (((Cod.enc u).drop k).take n) = val y) : LR P xs e (i * m + k) t (val y) := fun _ _ _ _ hx => a_ldRS hx hq hi hn hl hv
theorem lr1 {α : Type} [Cod α] {xs : List α} {u : α} [Ag P t false] [Sz P t n] (hq : Cod.n α = m) (hi : xs[i]? = some u) (hn : Nat.blt 0 n = true) (hl : (((Cod.enc u).drop k).take n).length = n) (hv : (Cod.enc u)[k]? = some v) : LR P xs e (i * m + k) t v := fun _ _ _ _ hx => a_ldR1 hx hq hi hn hl hv
theorem lrA {p : Prop} (h : p := by first | exact lrS hqA giA rfZ rfZ rfZ | exact lr1 hqA giA rfZ rfZ rfZ) : p := h
def LB (P : Program) (L : List Asn) (b k : Nat) (t : TypeId) (v : Value) : Prop := ∃ (i : Nat) (cs : List Value) (e : TypeId), L[i]? = some (Asn.blk b cs e) ∧ L1 P cs e k t v
theorem lb (i : Nat) {L : List Asn} {b : Nat} (hi : L[i]? = some (Asn.blk b cs e)) (h : L1 P cs e k t v) : LB P L b k t v := ⟨i, cs, e, hi, h⟩
def LW (P : Program) (L : List Asn) (sv : Value) (q : Nat) (t : TypeId) (v : Value) : Prop := ∃ (i : Nat) (α : Type) (_ : Cod α) (xs : List α) (e : TypeId), L[i]? = some (Asn.row e sv xs) ∧ LR P xs e q t v
theorem lw (i : Nat) {L : List Asn} {sv : Value} {q : Nat} {α : Type} [c : Cod α] {xs : List α} (hi : L[i]? = some (Asn.row e sv xs)) (h : LR P xs e q t v) : LW P L sv q t v := ⟨i, α, c, xs, e, hi, h⟩
variable {w0 : World} {F : List (Nat × Value)} {L : List Asn} {x : Operand} {b q : Nat} {sv : Value}
theorem Rd_b (hx : ev F x = some (ptr b k)) (h : LB P L b k t v) : Rd P w0 F L (.load t x) v := by
  obtain ⟨i, cs, e, hi, h⟩ := h
  exact (h w0 F x b hx).of_mem hi
theorem Rd_s (hx : ev F x = some (sel sv q)) (h : LW P L sv q t v) : Rd P w0 F L (.load t x) v := by
  obtain ⟨i, _, _, _, _, hi, h⟩ := h
  exact (h w0 F x sv hx).of_mem hi
end
theorem ldA {p : Prop} (h : p := by
  first | (apply Rd_b; exact ex; (first | exact lb 0 rfl l1A | exact lb 1 rfl l1A | exact lb 2 rfl l1A | exact lb 3 rfl l1A | exact lb 4 rfl l1A | exact lb 5 rfl l1A | exact lb 6 rfl l1A | exact lb 7 rfl l1A | exact lb 8 rfl l1A | exact lb 9 rfl l1A | exact lb 10 rfl l1A | exact lb 11 rfl l1A)) | (apply Rd_s; exact ex; (first | exact lw 0 rfl lrA | exact lw 1 rfl lrA | exact lw 2 rfl lrA | exact lw 3 rfl lrA | exact lw 4 rfl lrA | exact lw 5 rfl lrA | exact lw 6 rfl lrA | exact lw 7 rfl lrA | exact lw 8 rfl lrA))) : p := h
theorem pT {α : Type} {c : Bool} {x y v : α} (h : c = true) (k : x = v) : (bif c then x else y) = v := (cT h).trans k
theorem pF {α : Type} {c : Bool} {x y v : α} (h : c = false) (k : y = v) : (bif c then x else y) = v := (cF h).trans k
theorem pL {S R T : Type} {x X : S ⊕ R} {f : S → T} {g : R → T} {s : S} {v : T} (h : x = X) (h' : X = .inl s) (k : f s = v) : fin x f g = v := (pH (h.trans h')).trans k
theorem pR {S R T : Type} {x X : S ⊕ R} {f : S → T} {g : R → T} {r : R} {v : T} (h : x = X) (h' : X = .inr r) (k : g r = v) : fin x f g = v := (fin_r (h.trans h')).trans k
theorem pt {p : Prop} (h : p := by
  repeat (first | (apply pT; assumption) | (apply pF; assumption) | (apply pL; assumption; assumption) | (apply pR; assumption; assumption))
  rfl) : p := h
theorem sbA {p : Prop} (h : p := by repeat (first | exact trivial | refine ⟨rfl, ?_⟩)) : p := h
section
variable {P : Program} {w0 w : World} {N : Nat} {F F' : List (Nat × Value)} {L : List Asn} {a : Act}
theorem St.rs (h : St w0 N F L a w) (hF : SubF F' F := by exact sbA) : St w0 N F' L a w := h.sub hF
theorem St.re (h : St w0 N F L a w) (ix : List Nat) (hn : ix.Nodup := by decide) (hF : SubF F' F := by exact sbA) : St w0 N F' (ix.filterMap fun i => L[i]?) a w := (h.pick ix hn).sub hF
theorem rt {fn : Func} {R : Ending → World → Prop} {rs : List ResultVar} {vs : List Value} {v : Value} (h : St w0 N F L a w) (hrs : fn.results = rs.toArray := by rfl) (hr : Res P w F L rs vs := by first | exact .tmp rfl .nil | exact .tmp rfl (.tmp rfl .nil) | exact .nil | exact .tmp rfl (.tmp rfl (.tmp rfl .nil))) (hv : oT vs = v := by rfl) (hR : R (.returned v) w) :
    bodyPost P fn R .ret a w := ret h hrs hr hv hR
end
section
variable {P : Program} {w0 : World} {N : Nat} {F : List (Nat × Value)} {L : List Asn} {ops : Array Oper} {Q : Exit → Act → World → Prop}
def thn (P : Program) (y : Code) (Q : Exit → Act → World → Prop) : Exit → Act → World → Prop := Exit.then (fun a w => y.wp P Q a w) Q
theorem t_rs {id : Nat} {l : List Oper} {y : Code} (k : ∀ a w, St w0 N F L a w → wpList P l.toArray (thn P y Q) l a w) : ∀ a w, St w0 N F L a w → (Code.seq (.region id l.toArray false) y).wp P Q a w := fun a w h => wp_seq (c_r (k a w h))
theorem t_seq {x y : Code} (k : ∀ a w, St w0 N F L a w → x.wp P (thn P y Q) a w) : ∀ a w, St w0 N F L a w → (Code.seq x y).wp P Q a w := fun a w h => wp_seq (k a w h)
theorem t_nil {y : Code} (k : ∀ a w, St w0 N F L a w → y.wp P Q a w) : ∀ a w, St w0 N F L a w → wpList P ops (thn P y Q) [] a w := fun a w h => dW (k a w h)
theorem t_nilQ (k : ∀ a w, St w0 N F L a w → Q .normal a w) : ∀ a w, St w0 N F L a w → wpList P ops Q [] a w := fun a w h => dW (k a w h)
theorem t_nrm {y : Code} (k : ∀ a w, St w0 N F L a w → y.wp P Q a w) : ∀ a w, St w0 N F L a w → thn P y Q .normal a w := k
theorem t_ret {y : Code} (k : ∀ a w, St w0 N F L a w → Q .ret a w) : ∀ a w, St w0 N F L a w → thn P y Q .ret a w := k
theorem t_ex {y : Code} {i : Nat} (k : ∀ a w, St w0 N F L a w → Q (.exit i) a w) : ∀ a w, St w0 N F L a w → thn P y Q (.exit i) a w := k
theorem t_kret {K : Act → World → Prop} (k : ∀ a w, St w0 N F L a w → Q .ret a w) : ∀ a w, St w0 N F L a w → Exit.then K Q .ret a w := k
theorem t_kex {K : Act → World → Prop} {i : Nat} (k : ∀ a w, St w0 N F L a w → Q (.exit i) a w) : ∀ a w, St w0 N F L a w → Exit.then K Q (.exit i) a w := k
theorem t_bnrm {id : Nat} (k : ∀ a w, St w0 N F L a w → Q .normal a w) : ∀ a w, St w0 N F L a w → Exit.inBlock id Q .normal a w := k
theorem t_bret {id : Nat} (k : ∀ a w, St w0 N F L a w → Q .ret a w) : ∀ a w, St w0 N F L a w → Exit.inBlock id Q .ret a w := k
theorem t_bex {id i : Nat} (hi : Nat.beq i id = true) (k : ∀ a w, St w0 N F L a w → Q .normal a w) : ∀ a w, St w0 N F L a w → Exit.inBlock id Q (.exit i) a w := fun a w h => by
  show if i = id then _ else _
  rw [if_pos (Nat.eq_of_beq_eq_true hi)]; exact k a w h
theorem t_bex' {id i : Nat} (hi : Nat.beq i id = false) (k : ∀ a w, St w0 N F L a w → Q (.exit i) a w) : ∀ a w, St w0 N F L a w → Exit.inBlock id Q (.exit i) a w := fun a w h => by
  show if i = id then _ else _
  rw [if_neg (fun e => by rw [e, Nat.beq_refl] at hi; cases hi)]; exact k a w h
theorem gld {rest : List Oper} {ty : TypeId} {pos : String} {aft : Array Edge} {d : Nat} {t : TypeId} {x : Operand} {v : Value} (hs : Rd P w0 F L (.load t x) v) (hd : Nat.blt d N = true) (k : ∀ a w, St w0 N ((d, v) :: F) L a w → wpList P ops Q rest a w) :
    ∀ a w, St w0 N F L a w → wpList P ops Q (⟨some d, .load t x, ty, pos, aft, none⟩ :: rest) a w := fun a w h => rd h hs hd k
theorem rE (i : Nat) {rest : List Oper} {ty : TypeId} {pos : String} {aft : Array Edge} {t e : TypeId} {x y : Operand} {b n : Nat} {v : Value} {cs us : List Value} (hx : ev F x = some (ptr b 0)) (hi : L[i]? = some (Asn.blk b cs e)) [hz : Sz P t n] (hy : ev F y = some v)
    (hc : Cel v us) (hn : us.length = n) (h1 : us.all Value.oneCell' = true) (hf : Nat.beq n cs.length = true)
    (c : ∀ a w, St w0 N F (L.set i (Asn.blk b us e)) a w → wpList P ops Q rest a w) : ∀ a w, St w0 N F L a w → wpList P ops Q (⟨none, .store t x y, ty, pos, aft, none⟩ :: rest) a w :=
  gs i us hi hz.h hx hy hc.h hn h1 (by rw [Nat.zero_add, ← Nat.eq_of_beq_eq_true hf]; exact Nat.ble_self_eq_true n) (by
    have := Nat.eq_of_beq_eq_true hf
    simp [spl, hn, this]) c
theorem t_g {j dj : Nat} {want c b g : Bool} {rest : List Oper} {ty : TypeId} {pos : String} {aft : Array Edge} {op : Op} {d : Nat} (hj : (ops[j]?).bind (·.dst) = some dj) (hl : look F dj = some (gv c (.bool b)) ∨ (look F dj = some (.bool b) ∧ c = true)) (hg : (c && (b == want)) = g) {v : Value} (hs : g = true → Rd P w0 F L op v) (hd : Nat.blt d N = true)
    (k : ∀ a w, St w0 N ((d, gv g v) :: F) L a w → wpList P ops Q rest a w) : ∀ a w, St w0 N F L a w → wpList P ops Q (⟨some d, op, ty, pos, aft, some (j, want)⟩ :: rest) a w := fun _ _ h => by
  rcases hl with hl | ⟨hl, rfl⟩
  · exact gd h hj hl hg (fun e => (hs e).step) hd k
  · exact gd (c := true) h hj hl hg (fun e => (hs e).step) hd k
end
attribute [irreducible] thn
section
variable {P : Program} {w0 : World} {N : Nat} {F F' : List (Nat × Value)} {L L' : List Asn} {ops : Array Oper} {Q : Exit → Act → World → Prop} {R R' : Act → World → Prop}
theorem rgA {p : Prop} (h : p := by first | exact ldA | exact Rd.of_nil rdA) : p := h
theorem wu {p : Prop} (h : p := by
  intro k
  repeat (first | (apply g0; exact rdA; exact rfl) | refine t_rs ?_ | refine t_nil ?_ | refine t_seq ?_ | refine t_nrm ?_ | (apply gld; exact ldA; exact rfl) | refine gS ?_ | refine gB ?_ | refine gR ?_ | refine t_bnrm ?_ | refine gE ?_ | refine gT ?_ | refine t_ret ?_ | refine t_bret ?_ | refine t_kret ?_ | refine t_bex rfl ?_ | refine t_bex' rfl ?_ | refine t_ex ?_ | refine t_kex ?_ | (apply rE 0; exact ex; exact rfl; exact ex; infer_instance; exact rfl; exact rfl; exact rfl) | (apply rE 1; exact ex; exact rfl; exact ex; infer_instance; exact rfl; exact rfl; exact rfl) | (apply rE 2; exact ex; exact rfl; exact ex; infer_instance; exact rfl; exact rfl; exact rfl) | (apply rE 3; exact ex; exact rfl; exact ex; infer_instance; exact rfl; exact rfl; exact rfl) | (apply rE 4; exact ex; exact rfl; exact ex; infer_instance; exact rfl; exact rfl; exact rfl) | (apply rE 5; exact ex; exact rfl; exact ex; infer_instance; exact rfl; exact rfl; exact rfl) | (apply rE 6; exact ex; exact rfl; exact ex; infer_instance; exact rfl; exact rfl; exact rfl) | (apply rE 7; exact ex; exact rfl; exact ex; infer_instance; exact rfl; exact rfl; exact rfl) | (apply rE 8; exact ex; exact rfl; exact ex; infer_instance; exact rfl; exact rfl; exact rfl) | (apply rE 9; exact ex; exact rfl; exact ex; infer_instance; exact rfl; exact rfl; exact rfl) | (apply rE 10; exact ex; exact rfl; exact ex; infer_instance; exact rfl; exact rfl; exact rfl) | (apply rE 11; exact ex; exact rfl; exact ex; infer_instance; exact rfl; exact rfl; exact rfl) | refine t_nilQ ?_ | (apply t_g; exact rfl; (first | exact .inl rfl | exact .inr ⟨rfl, rfl⟩); (first | exact g_t | exact g_f | exact g_ct | exact g_cf); exact fun hg => rgA; exact rfl))
  exact k) : p := h
theorem W (w : (∀ a w, St w0 N F' L' a w → R' a w) → ∀ a w, St w0 N F L a w → R a w := by exact wu) (k : ∀ a w, St w0 N F' L' a w → R' a w) : ∀ a w, St w0 N F L a w → R a w := w k
theorem rx {fn : Func} {R1 : Ending → World → Prop} {rs : List ResultVar} {vs : List Value} {v : Value} {R0 : Act → World → Prop} {a : Act} {w : World} (h : St w0 N F L a w) (k : (∀ a w, St w0 N F' L' a w → bodyPost P fn R1 .ret a w) → ∀ a w, St w0 N F L a w → R0 a w := by exact wu) (hrs : fn.results = rs.toArray := by rfl)
    (hr : ∀ w, Res P w F' L' rs vs := by intro w; first | exact .tmp rfl .nil | exact .tmp rfl (.tmp rfl .nil) | exact .nil | exact .tmp rfl (.tmp rfl (.tmp rfl .nil))) (hv : oT vs = v := by rfl) (hR : ∀ a w, St w0 N F' L' a w → R1 (.returned v) w) : R0 a w := k (fun a w h => ret h hrs (hr w) hv (hR a w h)) a w h
theorem nx {I : Nat → Act → World → Prop} {n : Nat} {R0 : Act → World → Prop} {a : Act} {w : World} (h : St w0 N F L a w) (k : (∀ a w, St w0 N F' L' a w → Exit.then (fun a' w' => ∃ n', n' < n ∧ I n' a' w') Q .normal a w) → ∀ a w, St w0 N F L a w → R0 a w := by exact wu)
    (hk : ∀ a w, St w0 N F' L' a w → ∃ n', n' < n ∧ I n' a w) : R0 a w := k (fun a w h => hk a w h) a w h
variable {d : Nat} {op : Op} {rest : List Oper} {ty : TypeId} {pos : String} {aft : Array Edge}
theorem xo {v : Value} (w : (∀ a w, St w0 N F' L' a w → wpList P ops Q (⟨some d, op, ty, pos, aft, none⟩ :: rest) a w) → ∀ a w, St w0 N F L a w → R a w := by exact wu) (hs : Rd P w0 F' [] op v) (hd : Nat.blt d N = true := by rfl)
    (k : ∀ a w, St w0 N ((d, v) :: F') L' a w → wpList P ops Q rest a w) : ∀ a w, St w0 N F L a w → R a w := w fun _ _ h => rd0 h hs hd k
theorem ent_w {f : FuncId} {x : Operand} {args : Array Operand} {ats : Array TypeId} {vs cap us : List Value} (hc : ∀ args w, (callFunc f args).run P w = .ok (.enter f args) w) (hx : ev F x = some (.func (.func f) #[] cap.toArray)) (ha : evs F args.toList = some us) (hv : us ++ cap = vs) :
    Ent P F (.call ⟨.value x, args, ats⟩) f vs := hv ▸ rk hc hx ha
theorem enA {p : Prop} (h : p := by first | exact dR Cf.h exs | exact ent_i Mt.h Cf.h ex exs | exact ent_w Cf.h ex exs rfZ | exact ent_w (cap := []) Cf.h ex exs rfZ) : p := h
theorem xc {f : FuncId} {vs : List Value} {v : Value} {p : Prop} (w : (∀ a w, St w0 N F' L' a w → wpList P ops Q (⟨some d, op, ty, pos, aft, none⟩ :: rest) a w) → ∀ a w, St w0 N F L a w → R a w := by exact wu)
    (ct : ∀ w, Below w0.heap.size w0 w → (∃ U, Sep w0.heap.size w L' U) → Calls P f vs.toArray w (cq w v p)) (he : Ent P F' op f vs := by exact enA) (hd : Nat.blt d N = true := by rfl)
    (k : ∀ a w, St w0 N ((d, v) :: F') L' a w → wpList P ops Q rest a w) : ∀ a w, St w0 N F L a w → R a w := w fun _ _ h => c_val h he ct hd k
theorem xk {f : FuncId} {vs : List Value} {v : Value} {p : Prop} (ct : ∀ w, Calls P f vs.toArray w (cq w v p)) (w : (∀ a w, St w0 N F' L' a w → wpList P ops Q (⟨some d, op, ty, pos, aft, none⟩ :: rest) a w) → ∀ a w, St w0 N F L a w → R a w := by exact wu)
    (he : Ent P F' op f vs := by exact enA) (hd : Nat.blt d N = true := by rfl)
    (k : ∀ a w, St w0 N ((d, v) :: F') L' a w → wpList P ops Q rest a w) : ∀ a w, St w0 N F L a w → R a w := w fun _ _ h => c_val h he (kk ct) hd k
theorem xa {t : TypeId} {cs : List Value} (w : (∀ a w, St w0 N F' L' a w → wpList P ops Q (⟨some d, .alloc t, ty, pos, aft, none⟩ :: rest) a w) → ∀ a w, St w0 N F L a w → R a w := by exact wu) (hz : Zc P t cs := by infer_instance) (hd : Nat.blt d N = true := by rfl)
    (k : ∀ b a w, St w0 N ((d, ptr b 0) :: F') (Asn.blk b cs t :: L') a w → wpList P ops Q rest a w) : ∀ a w, St w0 N F L a w → R a w := w fun _ _ h => by
  obtain ⟨z, hz, hc⟩ := hz.h
  exact al h cs hz hc hd k
theorem xb {x : Operand} {v : Value} {t : TypeId} {cs : List Value} (w : (∀ a w, St w0 N F' L' a w → wpList P ops Q (⟨some d, .box t x, ty, pos, aft, none⟩ :: rest) a w) → ∀ a w, St w0 N F L a w → R a w := by exact wu) (hx : ev F' x = some v := by exact ex) (hc : Cel v cs := by infer_instance) (hd : Nat.blt d N = true := by rfl)
    (k : ∀ b a w, St w0 N ((d, ptr b 0) :: F') (Asn.blk b cs t :: L') a w → wpList P ops Q rest a w) : ∀ a w, St w0 N F L a w → R a w := w fun _ _ h => bx h cs hx hc.h hd k
theorem xs (i : Nat) {t e : TypeId} {x y : Operand} {b k n : Nat} {v : Value} {cs us : List Value} (cs' : List Value) (w : (∀ a w, St w0 N F' L' a w → wpList P ops Q (⟨none, .store t x y, ty, pos, aft, none⟩ :: rest) a w) → ∀ a w, St w0 N F L a w → R a w := by exact wu)
    (hi : L'[i]? = some (Asn.blk b cs e) := by rfl) (hz : Sz P t n := by infer_instance) (hx : ev F' x = some (ptr b k) := by exact ex) (hy : ev F' y = some v := by exact ex) (hc : Cel v us := by infer_instance) (hn : us.length = n := by rfl) (h1 : us.all Value.oneCell' = true := by rfl) (hf : Nat.ble (k + n) cs.length = true := by rfl) (hr : spl cs k us = cs' := by rfl)
    (c : ∀ a w, St w0 N F' (L'.set i (Asn.blk b cs' e)) a w → wpList P ops Q rest a w) : ∀ a w, St w0 N F L a w → R a w := w fun _ _ h => st h i cs' hi hz.h hx hy hc.h hn h1 hf hr c
theorem xg {j dj : Nat} {want c b g : Bool} {v : Value} (w : (∀ a w, St w0 N F' L' a w → wpList P ops Q (⟨some d, op, ty, pos, aft, some (j, want)⟩ :: rest) a w) → ∀ a w, St w0 N F L a w → R a w := by exact wu) (hs : g = true → Step P w0 F' L' op (· = v) (fun _ => L'))
    (hj : (ops[j]?).bind (·.dst) = some dj := by rfl) (hl : look F' dj = some (gv c (.bool b)) ∨ (look F' dj = some (.bool b) ∧ c = true) := by first | exact .inl rfl | exact .inr ⟨rfl, rfl⟩) (hg : (c && (b == want)) = g := by first | exact g_t | exact g_f | exact g_ct | exact g_cf) (hd : Nat.blt d N = true := by rfl)
    (k : ∀ a w, St w0 N ((d, gv g v) :: F') L' a w → wpList P ops Q rest a w) : ∀ a w, St w0 N F L a w → R a w := w fun _ _ h => by
  rcases hl with hl | ⟨hl, rfl⟩
  · exact gd h hj hl hg hs hd k
  · exact gd (c := true) h hj hl hg hs hd k
theorem ai {c : Operand} {x y : Code} {b : Bool} (w : (∀ a w, St w0 N F' L' a w → (Code.cond c x y).wp P Q a w) → ∀ a w, St w0 N F L a w → R a w := by exact wu) (hc : ev F' c = some (.bool b) := by rfl) (ht : ∀ a w, St w0 N F' L' a w → b = true → x.wp P Q a w) (hf : ∀ a w, St w0 N F' L' a w → b = false → y.wp P Q a w) :
    ∀ a w, St w0 N F L a w → R a w := w fun a w h => io h hc (ht a w h) (hf a w h)
end
section
variable {P : Program} {w0 : World} {ol : List Oper} {D : List DOp} {H : List Hist}
def OB (P : Program) (w0 : World) (ol : List Oper) (D : List DOp) (H : List Hist) (os : List Oper) (ds : List DOp) (i : Nat) (G G2 : List (Nat × Value)) : Prop := Obl P w0 ol D H os ds i (fun _ => G) ∧ ∀ ξ, endF os ds i ξ G = G2
variable {os : List Oper} {ds : List DOp} {i t : Nat} {G G2 : List (Nat × Value)} {op : Op} {ty : TypeId} {pos : String} {aft : Array Edge} {g : Option (Nat × Bool)} {v : Value} {acc : List Nat}
theorem o_s (h : ∀ ξ, ObS P w0 ol H (fun _ => G) ξ i ⟨some t, op, ty, pos, aft, g⟩ ⟨.det v, acc⟩) (k : OB P w0 ol D H os ds (i + 1) ((t, v) :: G) G2) : OB P w0 ol D H (⟨some t, op, ty, pos, aft, g⟩ :: os) (⟨.det v, acc⟩ :: ds) i G G2 :=
  ⟨⟨fun ξ _ => h ξ, k.1⟩, k.2⟩
theorem o_n (h : ∀ ξ, ObS P w0 ol H (fun _ => G) ξ i ⟨none, op, ty, pos, aft, g⟩ ⟨.det v, acc⟩) (k : OB P w0 ol D H os ds (i + 1) G G2) : OB P w0 ol D H (⟨none, op, ty, pos, aft, g⟩ :: os) (⟨.det v, acc⟩ :: ds) i G G2 :=
  ⟨⟨fun ξ _ => h ξ, k.1⟩, k.2⟩
theorem o_e : OB P w0 ol D H [] [] i G G := ⟨trivial, fun _ => rfl⟩
section
variable {ξ : Nat → Value} {GG : (Nat → Value) → List (Nat × Value)} {tl : TypeId} {xl : Operand} {dst : Option Tmp} {b k : Nat} {sv : Value} {q : Nat} {e : TypeId} {cs : List Value}
def LD (P : Program) (H : List Hist) (ξ : Nat → Value) (i : Nat) (acc : List Nat) (b k : Nat) (t : TypeId) (v : Value) : Prop := ∃ cs e, cp H acc i ξ = [Asn.blk b cs e] ∧ cp H acc (i + 1) (upd ξ i v) = [Asn.blk b cs e] ∧ L1 P cs e k t v
theorem ld (j : Nat) (h1 : cp H [j] i ξ = [Asn.blk b cs e]) (h2 : cp H [j] (i + 1) (upd ξ i v) = [Asn.blk b cs e]) (h3 : L1 P cs e k tl v) : LD P H ξ i [j] b k tl v := ⟨cs, e, h1, h2, h3⟩
def LE (P : Program) (H : List Hist) (ξ : Nat → Value) (i : Nat) (acc : List Nat) (sv : Value) (q : Nat) (t : TypeId) (v : Value) : Prop := ∃ (α : Type) (_ : Cod α) (xs : List α) (e : TypeId), cp H acc i ξ = [Asn.row e sv xs] ∧ cp H acc (i + 1) (upd ξ i v) = [Asn.row e sv xs] ∧ LR P xs e q t v
theorem le_ (j : Nat) {α : Type} [c : Cod α] {xs : List α} (h1 : cp H [j] i ξ = [Asn.row e sv xs]) (h2 : cp H [j] (i + 1) (upd ξ i v) = [Asn.row e sv xs]) (h3 : LR P xs e q tl v) : LE P H ξ i [j] sv q tl v := ⟨α, c, xs, e, h1, h2, h3⟩
theorem ob_l (hx : ev (eM (GG ξ) (dF (.load tl xl))) xl = some (ptr b k)) (h : LD P H ξ i acc b k tl v) : ObS P w0 ol H GG ξ i ⟨dst, .load tl xl, ty, pos, aft, none⟩ ⟨.det v, acc⟩ := by
  obtain ⟨cs, e, h1, h2, h3⟩ := h
  exact fY _ h1 h2 (h3 w0 _ _ b hx)
theorem ob_e (hx : ev (eM (GG ξ) (dF (.load tl xl))) xl = some (sel sv q)) (h : LE P H ξ i acc sv q tl v) : ObS P w0 ol H GG ξ i ⟨dst, .load tl xl, ty, pos, aft, none⟩ ⟨.det v, acc⟩ := by
  obtain ⟨α, c, xs, e, h1, h2, h3⟩ := h
  exact fY _ h1 h2 (h3 w0 _ _ sv hx)
def LG (P : Program) (H : List Hist) (ξ : Nat → Value) (i : Nat) (acc : List Nat) (b k : Nat) (t : TypeId) (v : Value) : Prop := ∃ cs e, cp H acc i ξ = [Asn.blk b cs e] ∧ (acc.all fun e => match H[e]? with | some h => h.steps.all fun p => !(Nat.beq p.1 i) | none => true) = true ∧ L1 P cs e k t v
theorem lg (j : Nat) (h1 : cp H [j] i ξ = [Asn.blk b cs e]) (h2 : ([j].all fun e => match H[e]? with | some h => h.steps.all fun p => !(Nat.beq p.1 i) | none => true) = true) (h3 : L1 P cs e k tl v) : LG P H ξ i [j] b k tl v := ⟨cs, e, h1, h2, h3⟩
variable {j : Nat} {c g c' want : Bool}
theorem ob_lg (hl : look (GG ξ) (((ol[j]?).bind (·.dst)).getD 0) = some (gv c (.bool g)) ∨ (look (GG ξ) (((ol[j]?).bind (·.dst)).getD 0) = some (.bool g) ∧ c = true)) (hd : ((ol[j]?).bind (·.dst)).isSome = true) (hg : (c && (g == want)) = c') (hx : c' = true → ev (eM (GG ξ) (dF (.load tl xl))) xl = some (ptr b k)) (h : LG P H ξ i acc b k tl v) :
    ObS P w0 ol H GG ξ i ⟨dst, .load tl xl, ty, pos, aft, some (j, want)⟩ ⟨.det (gv c' v), acc⟩ := by
  obtain ⟨cs, e, h1, h2, h3⟩ := h
  rcases hl with hl | ⟨hl, rfl⟩
  · exact ii _ h1 h2 hl hd hg fun hg => (h3 w0 _ _ b (hx hg)).step
  · exact ii (c := true) _ h1 h2 hl hd hg fun hg => (h3 w0 _ _ b (hx hg)).step
def LF (P : Program) (H : List Hist) (ξ : Nat → Value) (i : Nat) (acc : List Nat) (sv : Value) (q : Nat) (t : TypeId) (v : Value) (c : Bool) : Prop := ∃ (α : Type) (_ : Cod α) (xs : List α) (e : TypeId), cp H acc i ξ = [Asn.row e sv xs] ∧ (acc.all fun e => match H[e]? with | some h => h.steps.all fun p => !(Nat.beq p.1 i) | none => true) = true ∧ (c = true → LR P xs e q t v)
theorem lf (j : Nat) {α : Type} [co : Cod α] {xs : List α} (h1 : cp H [j] i ξ = [Asn.row e sv xs]) (h2 : ([j].all fun e => match H[e]? with | some h => h.steps.all fun p => !(Nat.beq p.1 i) | none => true) = true) (h3 : c = true → LR P xs e q tl v) : LF P H ξ i [j] sv q tl v c := ⟨α, co, xs, e, h1, h2, h3⟩
theorem ob_lf (hl : look (GG ξ) (((ol[j]?).bind (·.dst)).getD 0) = some (gv c (.bool g)) ∨ (look (GG ξ) (((ol[j]?).bind (·.dst)).getD 0) = some (.bool g) ∧ c = true)) (hd : ((ol[j]?).bind (·.dst)).isSome = true) (hg : (c && (g == want)) = c') (hx : c' = true → ev (eM (GG ξ) (dF (.load tl xl))) xl = some (sel sv q)) (h : LF P H ξ i acc sv q tl v c') :
    ObS P w0 ol H GG ξ i ⟨dst, .load tl xl, ty, pos, aft, some (j, want)⟩ ⟨.det (gv c' v), acc⟩ := by
  obtain ⟨α, co, xs, e, h1, h2, h3⟩ := h
  rcases hl with hl | ⟨hl, rfl⟩
  · exact ii _ h1 h2 hl hd hg fun hg => (h3 hg w0 _ _ sv (hx hg)).step
  · exact ii (c := true) _ h1 h2 hl hd hg fun hg => (h3 hg w0 _ _ sv (hx hg)).step
def LS (P : Program) (H : List Hist) (ξ : Nat → Value) (i : Nat) (acc : List Nat) (b k : Nat) (t : TypeId) (u : Value) : Prop := ∃ cs e cs' us n, cp H acc i ξ = [Asn.blk b cs e] ∧ cp H acc (i + 1) (upd ξ i undef) = [Asn.blk b cs' e] ∧ (∀ w, (sizeOf t).run P w = .ok n w) ∧ u.cells.toList = us ∧ us.length = n ∧ us.all Value.oneCell' = true ∧ Nat.ble (k + n) cs.length = true ∧ spl cs k us = cs'
theorem ls_ (j : Nat) {cs' us : List Value} {u : Value} {n : Nat} (h1 : cp H [j] i ξ = [Asn.blk b cs e]) (h2 : cp H [j] (i + 1) (upd ξ i undef) = [Asn.blk b cs' e]) [hz : Sz P tl n] [hc : Cel u us] (hn : us.length = n) (ho : us.all Value.oneCell' = true) (hf : Nat.ble (k + n) cs.length = true) (hr : spl cs k us = cs') : LS P H ξ i [j] b k tl u := ⟨cs, e, cs', us, n, h1, h2, hz.h, hc.h, hn, ho, hf, hr⟩
theorem ob_st {yl : Operand} {u : Value} (hx : ev (eM (GG ξ) (dF (.store tl xl yl))) xl = some (ptr b k)) (hy : ev (eM (GG ξ) (dF (.store tl xl yl))) yl = some u) (h : LS P H ξ i acc b k tl u) : ObS P w0 ol H GG ξ i ⟨dst, .store tl xl yl, ty, pos, aft, none⟩ ⟨.det undef, acc⟩ := by
  obtain ⟨cs, e, cs', us, n, h1, h2, h3, h4, h5, h6, h7, h8⟩ := h
  exact kt _ _ h1 h2 (lC h3 hx hy h4 h5 h6 h7 h8)
end
section
variable {ξ : Nat → Value} {GG : (Nat → Value) → List (Nat × Value)} {dst : Option Tmp}
theorem pm (j : Nat) {t : TypeId} {cs : List Value} [hz : Zc P t cs] (hA : cp H [j] i ξ = [.emp]) (hA' : ∀ b, cp H [j] (i + 1) (upd ξ i (ptr b 0)) = [Asn.blk b cs t]) : ObS P w0 ol H GG ξ i ⟨dst, .alloc t, ty, pos, aft, none⟩ ⟨.nd (.one i fun v => ∃ b, v = ptr b 0), [j]⟩ := by
  obtain ⟨z, hz, hc⟩ := hz.h
  refine lW (ψ := fun v => ∃ b, v = ptr b 0) (B := fun v => [Asn.blk (bC v) cs t]) [.emp] hA (fun v hv => ?_) (fun v hv => ?_) (iz (eS hz hc))
  · obtain ⟨b, rfl⟩ := hv; exact hA' b
  · show ∃ b, upd ξ i v i = ptr b 0
    rw [bp]; exact hv
theorem pk (j : Nat) {q : Nat} {t e : TypeId} {x y : Operand} {u : Value} {cs us : List Value} {n : Nat} (hb : ∃ b, ξ q = ptr b 0) (hx : ev (eM (GG ξ) (dF (.store t x y))) x = some (ξ q)) (hy : ev (eM (GG ξ) (dF (.store t x y))) y = some u) [hz : Sz P t n] [hc : Cel u us]
    (hA : cp H [j] i ξ = [Asn.blk (bC (ξ q)) cs e]) (hA' : cp H [j] (i + 1) (upd ξ i undef) = [Asn.blk (bC (ξ q)) us e]) (hn : us.length = n) (ho : us.all Value.oneCell' = true) (hf : cs.length = n) : ObS P w0 ol H GG ξ i ⟨dst, .store t x y, ty, pos, aft, none⟩ ⟨.det undef, [j]⟩ := by
  obtain ⟨b, hb⟩ := hb
  rw [hb] at hx hA hA'
  exact kt _ _ hA hA' (lC hz.h hx hy hc.h hn ho (by rw [hf, Nat.zero_add]; exact Nat.ble_self_eq_true n) (by simp [spl, hn, hf]))
end
theorem oA {R : (Nat → Value) → Prop} {S : (Nat → Value) → Prop} (h : ∀ ξ, S ξ) : ∀ ξ, R ξ → S ξ := fun ξ _ => h ξ
theorem obA {p : Prop} (h : p := by
  intro ξ
  first | (apply ob_l; exact ex; (first | exact ld 0 rfl rfl l1A | exact ld 1 rfl rfl l1A | exact ld 2 rfl rfl l1A | exact ld 3 rfl rfl l1A | exact ld 4 rfl rfl l1A | exact ld 5 rfl rfl l1A | exact ld 6 rfl rfl l1A | exact ld 7 rfl rfl l1A | exact ld 8 rfl rfl l1A | exact ld 9 rfl rfl l1A | exact ld 10 rfl rfl l1A | exact ld 11 rfl rfl l1A)) | (apply ob_e; exact ex; (first | exact le_ 0 rfl rfl lrA | exact le_ 1 rfl rfl lrA | exact le_ 2 rfl rfl lrA | exact le_ 3 rfl rfl lrA | exact le_ 4 rfl rfl lrA | exact le_ 5 rfl rfl lrA | exact le_ 6 rfl rfl lrA | exact le_ 7 rfl rfl lrA | exact le_ 8 rfl rfl lrA)) | exact ba rdA | exact oh (acc := []) rfl rfl rfl rfl (fun hg => rdA) | exact og2 (acc := []) rfl rfl rfl rfl (fun hg => Rd.step rdA) | exact og3 (acc := []) rfl rfl rfl rfl (fun hg => Rd.step rdA) | exact og4 (acc := []) rfl rfl rfl rfl (fun hg => Rd.step rdA) | (apply ob_lg; (first | exact .inl rfl | exact .inr ⟨rfl, rfl⟩); exact rfl; (first | exact g_t | exact g_f | exact g_ct | exact g_cf); exact fun hg => ex; (first | exact lg 0 rfl rfl l1A | exact lg 1 rfl rfl l1A | exact lg 2 rfl rfl l1A | exact lg 3 rfl rfl l1A | exact lg 4 rfl rfl l1A | exact lg 5 rfl rfl l1A | exact lg 6 rfl rfl l1A | exact lg 7 rfl rfl l1A | exact lg 8 rfl rfl l1A)) | (apply ob_lf; (first | exact .inl rfl | exact .inr ⟨rfl, rfl⟩); exact rfl; (first | exact g_t | exact g_f | exact g_ct | exact g_cf); exact fun hg => ex; (first | exact lf 0 rfl rfl (fun hg => lrA) | exact lf 1 rfl rfl (fun hg => lrA) | exact lf 2 rfl rfl (fun hg => lrA) | exact lf 3 rfl rfl (fun hg => lrA) | exact lf 4 rfl rfl (fun hg => lrA) | exact lf 5 rfl rfl (fun hg => lrA) | exact lf 6 rfl rfl (fun hg => lrA) | exact lf 7 rfl rfl (fun hg => lrA) | exact lf 8 rfl rfl (fun hg => lrA))) | (apply ob_st; exact ex; exact ex; (first | exact ls_ 0 rfl rfl rfZ rfZ rfZ rfZ | exact ls_ 1 rfl rfl rfZ rfZ rfZ rfZ | exact ls_ 2 rfl rfl rfZ rfZ rfZ rfZ | exact ls_ 3 rfl rfl rfZ rfZ rfZ rfZ | exact ls_ 4 rfl rfl rfZ rfZ rfZ rfZ | exact ls_ 5 rfl rfl rfZ rfZ rfZ rfZ | exact ls_ 6 rfl rfl rfZ rfZ rfZ rfZ | exact ls_ 7 rfl rfl rfZ rfZ rfZ rfZ | exact ls_ 8 rfl rfl rfZ rfZ rfZ rfZ | exact ls_ 9 rfl rfl rfZ rfZ rfZ rfZ | exact ls_ 10 rfl rfl rfZ rfZ rfZ rfZ | exact ls_ 11 rfl rfl rfZ rfZ rfZ rfZ))) : p := h
theorem oE (w : OB P w0 ol D H os ds i G G2 := by
  repeat (first | exact o_e | (apply o_s; exact obA) | (apply o_n; exact obA))) : OB P w0 ol D H os ds i G G2 := w
section
variable {G' : List (Nat × Value)} {os' : List Oper} {ds' : List DOp} {i' : Nat}
theorem owA {p : Prop} (h : p := by
  intro k
  repeat (first | (apply o_s; exact obA) | (apply o_n; exact obA))
  exact k) : p := h
theorem oK {f : FuncId} {vs : List Value} {p : Prop} (ct : ∀ w, Calls P f vs.toArray w (cq w v p)) (w : OB P w0 ol D H (⟨some t, op, ty, pos, aft, none⟩ :: os') (⟨.det v, []⟩ :: ds') i' G' G2 → OB P w0 ol D H os ds i G G2 := by exact owA) (he : Ent P (eM G' (dF op)) op f vs := by exact enA)
    (k : OB P w0 ol D H os' ds' (i' + 1) ((t, v) :: G') G2) : OB P w0 ol D H os ds i G G2 := w (o_s (fun _ => hH (d6 he (kk ct))) k)
theorem oG {f : FuncId} {vs : List Value} {p : Prop} {j : Nat} {c want b g : Bool} (ct : g = true → ∀ w, Calls P f vs.toArray w (cq w v p)) (w : OB P w0 ol D H (⟨some t, op, ty, pos, aft, some (j, want)⟩ :: os') (⟨.det (gv g v), []⟩ :: ds') i' G' G2 → OB P w0 ol D H os ds i G G2 := by exact owA)
    (hl : look G' (((ol[j]?).bind (·.dst)).getD 0) = some (gv c (.bool b)) ∨ (look G' (((ol[j]?).bind (·.dst)).getD 0) = some (.bool b) ∧ c = true) := by first | exact .inl rfl | exact .inr ⟨rfl, rfl⟩) (hd : ((ol[j]?).bind (·.dst)).isSome = true := by rfl) (hg : (c && (b == want)) = g := by first | exact g_t | exact g_f | exact g_ct | exact g_cf)
    (he : g = true → Ent P (eM G' (dF op)) op f vs := by intro hg; exact enA)
    (k : OB P w0 ol D H os' ds' (i' + 1) ((t, gv g v) :: G') G2) : OB P w0 ol D H os ds i G G2 := w (o_s (fun _ => by
      rcases hl with hl | ⟨hl, rfl⟩
      · exact ii [] rfl rfl hl hd hg (fun e => d6 (he e) (kk (ct e)))
      · exact ii (c := true) [] rfl rfl hl hd hg (fun e => d6 (he e) (kk (ct e)))) k)
theorem oY (w : OB P w0 ol D H (⟨none, op, ty, pos, aft, g⟩ :: os') (⟨.det v, acc⟩ :: ds') i' G' G2 → OB P w0 ol D H os ds i G G2 := by exact owA) (h : ∀ ξ, ObS P w0 ol H (fun _ => G') ξ i' ⟨none, op, ty, pos, aft, g⟩ ⟨.det v, acc⟩)
    (k : OB P w0 ol D H os' ds' (i' + 1) G' G2) : OB P w0 ol D H os ds i G G2 := w (o_n h k)
theorem oX (w : OB P w0 ol D H (⟨some t, op, ty, pos, aft, g⟩ :: os') (⟨.det v, acc⟩ :: ds') i' G' G2 → OB P w0 ol D H os ds i G G2 := by exact owA) (h : ∀ ξ, ObS P w0 ol H (fun _ => G') ξ i' ⟨some t, op, ty, pos, aft, g⟩ ⟨.det v, acc⟩)
    (k : OB P w0 ol D H os' ds' (i' + 1) ((t, v) :: G') G2) : OB P w0 ol D H os ds i G G2 := w (o_s h k)
end
end
section
variable {P : Program} {w0 : World} {N : Nat} {F F' : List (Nat × Value)} {L L' : List Asn} {ol : List Oper} {D : List DOp} {Q : Exit → Act → World → Prop} {R : Act → World → Prop} {id : Nat} {G2 : List (Nat × Value)}
theorem hLA {p : Prop} (h : p := by
  intro ξ
  simp only [List.map_cons, List.map_nil, Hist.at, List.foldl_cons, List.foldl_nil, cond_true, DF.con]
  try rfl) : p := h
theorem dr1 {H : List Hist} {L2 : List Asn} (w : (∀ a w, St w0 N F' L' a w → (Code.region id ol.toArray true).wp P Q a w) → ∀ a w, St w0 N F L a w → R a w := by exact wu) (hL : H.map (·.init) = L' := by rfl) (hob : OB P w0 ol D H ol D 0 F' G2) (hm : P.follows .mixedOrders = true := by exact mixed)
    (hc : (chk ol D H && D.all (fun d => lP d.acc) && oP ol N) = true := by kernel_rfl) (hL2 : ∀ ξ, (H.map fun h => h.at (fun _ => true) ξ) = L2 := by exact hLA) (k : ∀ a w, St w0 N G2 L2 a w → Q .normal a w) : ∀ a w, St w0 N F L a w → R a w := w fun a w h =>
  eV hm D H h hL hc hob.1 fun ξ a w _ h => k a w (by rw [hob.2 ξ, hL2 ξ] at h; exact h)
theorem dr0 (w : (∀ a w, St w0 N F' L' a w → (Code.region id ol.toArray true).wp P Q a w) → ∀ a w, St w0 N F L a w → R a w := by exact wu) (hob : OB P w0 ol D (L'.map fun r => ⟨r, []⟩) ol D 0 F' G2) (hm : P.follows .mixedOrders = true := by exact mixed)
    (hc : (chk ol D (L'.map fun r => ⟨r, []⟩) && D.all (fun d => lP d.acc) && oP ol N) = true := by kernel_rfl) (k : ∀ a w, St w0 N G2 L' a w → Q .normal a w) : ∀ a w, St w0 N F L a w → R a w := w fun a w h =>
  eV hm D (L'.map fun r => ⟨r, []⟩) h (by rw [List.map_map]; exact List.map_id _) hc hob.1 fun ξ a w _ h => k a w (by
    rw [hob.2 ξ, List.map_map] at h
    have : (List.map ((fun h => Hist.at h (fun _ => true) ξ) ∘ fun r => ⟨r, []⟩) L') = L' := List.map_id _
    rw [this] at h
    exact h)
end
attribute [irreducible] OB
end Go.Sx
namespace Go.Sx
open Go Go.RowKit Go.Proofs
set_option maxRecDepth 100000
instance yAxC_22 : Sz Tryz.prog 3 1 := ⟨Tryz.sizeOf3⟩
instance yAxC_23 : Sz Tryz.prog 4 1 := ⟨Tryz.sizeOf4⟩
instance yAxC_24 : Sz Tryz.prog 5 1 := ⟨Tryz.sizeOf5⟩
instance yAxC_25 : Sz Tryz.prog 9 1 := ⟨Tryz.sizeOf9⟩
instance yAxC_26 : Sz Tryz.prog 25 2 := ⟨Tryz.sizeOf25⟩
instance yAxC_27 : Sz Tryz.prog 27 4 := ⟨Tryz.sizeOf27⟩
instance yAxC_28 : Sz Tryz.prog 50 1 := ⟨Tryz.sizeOf50⟩
instance yAxC_29 : Sz Tryz.prog 53 12 := ⟨Tryz.sizeOf53⟩
instance yAxC_30 : Sz Tryz.prog 57 1 := ⟨Tryz.sizeOf57⟩
instance yAxC_31 : Sz Tryz.prog 71 9 := ⟨Tryz.sizeOf71⟩
instance yAxC_32 : Sz Tryz.prog 79 16 := ⟨Tryz.sizeOf79⟩
instance yAxC_33 : Sz Tryz.prog 81 1 := ⟨Tryz.sizeOf81⟩
instance yAxC_34 : Sz Tryz.prog 86 20 := ⟨Tryz.sizeOf86⟩
instance yAxC_35 : Sz Tryz.prog 103 1 := ⟨Tryz.sizeOf103⟩
instance yAxC_36 : Sz Tryz.prog 126 32 := ⟨Tryz.sizeOf126⟩
instance yAxC_37 : Sz Tryz.prog 162 1 := ⟨Tryz.sizeOf162⟩
instance yAxC_38 : Sz Tryz.prog 166 1 := ⟨Tryz.sizeOf166⟩
instance yAxC_39 : Sz Tryz.prog 167 3 := ⟨Tryz.sizeOf167⟩
instance yAxC_40 : Sz Tryz.prog 169 7 := ⟨Tryz.sizeOf169⟩
instance yAxC_41 : Sz Tryz.prog 174 1 := ⟨Tryz.sizeOf174⟩
instance yAxC_42 : Sz Tryz.prog 176 21 := ⟨Tryz.sizeOf176⟩
instance yAxC_43 : Sz Tryz.prog 182 44 := ⟨Tryz.sizeOf182⟩
instance yAxC_44 : Sz Tryz.prog 199 36 := ⟨Tryz.sizeOf199⟩
instance yAxC_45 : Sz Tryz.prog 206 10 := ⟨Tryz.sizeOf206⟩
instance yAxC_46 : Sz Tryz.prog 264 32 := ⟨Tryz.sizeOf264⟩
instance yAxC_47 : Sz Tryz.prog 319 2 := ⟨Tryz.sizeOf319⟩
instance yAxC_48 : Sz Tryz.prog 321 12 := ⟨Tryz.sizeOf321⟩
instance yAxC_49 : Sz Tryz.prog 341 1 := ⟨Tryz.sizeOf341⟩
instance yAxC_50 : Ag Tryz.prog 3 false := ⟨Tryz.isAgg3⟩
instance yAxC_51 : Ag Tryz.prog 4 false := ⟨Tryz.isAgg4⟩
instance yAxC_52 : Ag Tryz.prog 5 false := ⟨Tryz.isAgg5⟩
instance yAxC_53 : Ag Tryz.prog 9 false := ⟨Tryz.isAgg9⟩
instance yAxC_54 : Ag Tryz.prog 25 true := ⟨Tryz.isAgg25⟩
instance yAxC_55 : Ag Tryz.prog 27 true := ⟨Tryz.isAgg27⟩
instance yAxC_56 : Ag Tryz.prog 50 false := ⟨Tryz.isAgg50⟩
instance yAxC_57 : Ag Tryz.prog 53 true := ⟨Tryz.isAgg53⟩
instance yAxC_58 : Ag Tryz.prog 57 false := ⟨Tryz.isAgg57⟩
instance yAxC_59 : Ag Tryz.prog 71 true := ⟨Tryz.isAgg71⟩
instance yAxC_60 : Ag Tryz.prog 79 true := ⟨Tryz.isAgg79⟩
instance yAxC_61 : Ag Tryz.prog 81 false := ⟨Tryz.isAgg81⟩
instance yAxC_62 : Ag Tryz.prog 86 true := ⟨Tryz.isAgg86⟩
instance yAxC_63 : Ag Tryz.prog 103 false := ⟨Tryz.isAgg103⟩
instance yAxC_64 : Ag Tryz.prog 126 true := ⟨Tryz.isAgg126⟩
instance yAxC_65 : Ag Tryz.prog 162 false := ⟨Tryz.isAgg162⟩
instance yAxC_66 : Ag Tryz.prog 166 false := ⟨Tryz.isAgg166⟩
instance yAxC_67 : Ag Tryz.prog 167 true := ⟨Tryz.isAgg167⟩
instance yAxC_68 : Ag Tryz.prog 169 true := ⟨Tryz.isAgg169⟩
instance yAxC_69 : Ag Tryz.prog 174 false := ⟨Tryz.isAgg174⟩
instance yAxC_70 : Ag Tryz.prog 176 true := ⟨Tryz.isAgg176⟩
instance yAxC_71 : Ag Tryz.prog 182 true := ⟨Tryz.isAgg182⟩
instance yAxC_72 : Ag Tryz.prog 199 true := ⟨Tryz.isAgg199⟩
instance yAxC_73 : Ag Tryz.prog 206 true := ⟨Tryz.isAgg206⟩
instance yAxC_74 : Ag Tryz.prog 264 true := ⟨Tryz.isAgg264⟩
instance yAxC_75 : Ag Tryz.prog 319 true := ⟨Tryz.isAgg319⟩
instance yAxC_76 : Ag Tryz.prog 321 true := ⟨Tryz.isAgg321⟩
instance yAxC_77 : Ag Tryz.prog 341 false := ⟨Tryz.isAgg341⟩
instance yAxC_78 : Fl Tryz.prog 25 0 4 0 := ⟨⟨_, _, uu25, rfl, rfl, rfl⟩⟩
instance yAxC_79 : Fl Tryz.prog 25 1 9 1 := ⟨⟨_, _, uu25, rfl, rfl, rfl⟩⟩
instance yAxC_80 : Fl Tryz.prog 27 0 25 0 := ⟨⟨_, _, uu27, rfl, rfl, rfl⟩⟩
instance yAxC_81 : Fl Tryz.prog 27 1 25 2 := ⟨⟨_, _, uu27, rfl, rfl, rfl⟩⟩
instance yAxC_82 : Un Tryz.prog 49 (.slice 169) := ⟨Tryz.runUnderlying49⟩
instance yAxC_83 : Un Tryz.prog 50 (.slice 126) := ⟨Tryz.runUnderlying50⟩
instance yAxC_84 : Fl Tryz.prog 53 0 27 0 := ⟨⟨_, _, uu53, rfl, rfl, rfl⟩⟩
instance yAxC_85 : Fl Tryz.prog 53 1 27 4 := ⟨⟨_, _, uu53, rfl, rfl, rfl⟩⟩
instance yAxC_86 : Fl Tryz.prog 53 2 27 8 := ⟨⟨_, _, uu53, rfl, rfl, rfl⟩⟩
instance yAxC_87 : Un Tryz.prog 57 (.slice 176) := ⟨Tryz.runUnderlying57⟩
instance yAxC_88 : Un Tryz.prog 66 (.slice 71) := ⟨Tryz.runUnderlying66⟩
instance yAxC_89 : Fl Tryz.prog 71 0 27 0 := ⟨⟨_, _, uu71, rfl, rfl, rfl⟩⟩
instance yAxC_90 : Fl Tryz.prog 71 1 27 4 := ⟨⟨_, _, uu71, rfl, rfl, rfl⟩⟩
instance yAxC_91 : Fl Tryz.prog 71 2 4 8 := ⟨⟨_, _, uu71, rfl, rfl, rfl⟩⟩
instance yAxC_92 : Fl Tryz.prog 79 0 27 0 := ⟨⟨_, _, uu79, rfl, rfl, rfl⟩⟩
instance yAxC_93 : Fl Tryz.prog 79 1 27 4 := ⟨⟨_, _, uu79, rfl, rfl, rfl⟩⟩
instance yAxC_94 : Fl Tryz.prog 79 2 27 8 := ⟨⟨_, _, uu79, rfl, rfl, rfl⟩⟩
instance yAxC_95 : Fl Tryz.prog 79 3 27 12 := ⟨⟨_, _, uu79, rfl, rfl, rfl⟩⟩
instance yAxC_96 : Un Tryz.prog 81 (.slice 199) := ⟨Tryz.runUnderlying81⟩
instance yAxC_97 : Fl Tryz.prog 86 0 71 0 := ⟨⟨_, _, uu86, rfl, rfl, rfl⟩⟩
instance yAxC_98 : Fl Tryz.prog 86 1 71 9 := ⟨⟨_, _, uu86, rfl, rfl, rfl⟩⟩
instance yAxC_99 : Fl Tryz.prog 86 2 4 18 := ⟨⟨_, _, uu86, rfl, rfl, rfl⟩⟩
instance yAxC_100 : Fl Tryz.prog 86 3 4 19 := ⟨⟨_, _, uu86, rfl, rfl, rfl⟩⟩
instance yAxC_101 : Un Tryz.prog 103 (.slice 86) := ⟨Tryz.runUnderlying103⟩
instance yAxC_102 : Un Tryz.prog 110 (.array 3 27) := ⟨Tryz.runUnderlying110⟩
instance yAxC_103 : Fl Tryz.prog 126 0 86 0 := ⟨⟨_, _, uu126, rfl, rfl, rfl⟩⟩
instance yAxC_104 : Fl Tryz.prog 126 1 53 20 := ⟨⟨_, _, uu126, rfl, rfl, rfl⟩⟩
instance yAxC_105 : Un Tryz.prog 164 (.slice 264) := ⟨Tryz.runUnderlying164⟩
instance yAxC_106 : Un Tryz.prog 167 (.array 3 166) := ⟨Tryz.runUnderlying167⟩
instance yAxC_107 : Fl Tryz.prog 169 0 5 0 := ⟨⟨_, _, uu169, rfl, rfl, rfl⟩⟩
instance yAxC_108 : Fl Tryz.prog 169 1 5 1 := ⟨⟨_, _, uu169, rfl, rfl, rfl⟩⟩
instance yAxC_109 : Fl Tryz.prog 169 2 5 2 := ⟨⟨_, _, uu169, rfl, rfl, rfl⟩⟩
instance yAxC_110 : Fl Tryz.prog 169 3 4 3 := ⟨⟨_, _, uu169, rfl, rfl, rfl⟩⟩
instance yAxC_111 : Fl Tryz.prog 169 4 167 4 := ⟨⟨_, _, uu169, rfl, rfl, rfl⟩⟩
instance yAxC_112 : Fl Tryz.prog 176 0 86 0 := ⟨⟨_, _, uu176, rfl, rfl, rfl⟩⟩
instance yAxC_113 : Fl Tryz.prog 176 1 3 20 := ⟨⟨_, _, uu176, rfl, rfl, rfl⟩⟩
instance yAxC_114 : Un Tryz.prog 179 (.slice 182) := ⟨Tryz.runUnderlying179⟩
instance yAxC_115 : Fl Tryz.prog 182 0 86 0 := ⟨⟨_, _, uu182, rfl, rfl, rfl⟩⟩
instance yAxC_116 : Fl Tryz.prog 182 1 53 20 := ⟨⟨_, _, uu182, rfl, rfl, rfl⟩⟩
instance yAxC_117 : Fl Tryz.prog 182 2 53 32 := ⟨⟨_, _, uu182, rfl, rfl, rfl⟩⟩
instance yAxC_118 : Fl Tryz.prog 199 0 86 0 := ⟨⟨_, _, uu199, rfl, rfl, rfl⟩⟩
instance yAxC_119 : Fl Tryz.prog 199 1 79 20 := ⟨⟨_, _, uu199, rfl, rfl, rfl⟩⟩
instance yAxC_120 : Fl Tryz.prog 206 0 71 0 := ⟨⟨_, _, uu206, rfl, rfl, rfl⟩⟩
instance yAxC_121 : Fl Tryz.prog 206 1 4 9 := ⟨⟨_, _, uu206, rfl, rfl, rfl⟩⟩
instance yAxC_122 : Un Tryz.prog 208 (.array 4 27) := ⟨Tryz.runUnderlying208⟩
instance yAxC_123 : Fl Tryz.prog 264 0 71 0 := ⟨⟨_, _, uu264, rfl, rfl, rfl⟩⟩
instance yAxC_124 : Fl Tryz.prog 264 1 71 9 := ⟨⟨_, _, uu264, rfl, rfl, rfl⟩⟩
instance yAxC_125 : Fl Tryz.prog 264 2 4 18 := ⟨⟨_, _, uu264, rfl, rfl, rfl⟩⟩
instance yAxC_126 : Fl Tryz.prog 264 3 4 19 := ⟨⟨_, _, uu264, rfl, rfl, rfl⟩⟩
instance yAxC_127 : Fl Tryz.prog 264 4 53 20 := ⟨⟨_, _, uu264, rfl, rfl, rfl⟩⟩
instance yAxC_128 : Un Tryz.prog 317 (.slice 321) := ⟨Tryz.runUnderlying317⟩
instance yAxC_129 : Un Tryz.prog 318 (.slice 103) := ⟨Tryz.runUnderlying318⟩
instance yAxC_130 : Un Tryz.prog 319 (.array 2 3) := ⟨Tryz.runUnderlying319⟩
instance yAxC_131 : Fl Tryz.prog 321 0 206 0 := ⟨⟨_, _, uu321, rfl, rfl, rfl⟩⟩
instance yAxC_132 : Fl Tryz.prog 321 1 319 10 := ⟨⟨_, _, uu321, rfl, rfl, rfl⟩⟩
instance yAxC_133 : Un Tryz.prog 334 (.array 8 5) := ⟨Tryz.runUnderlying334⟩
instance yAxC_134 : Un Tryz.prog 335 (.slice 5) := ⟨Tryz.runUnderlying335⟩
instance yAxC_135 : Un Tryz.prog 339 (.slice 341) := ⟨Tryz.runUnderlying339⟩
instance yAxC_136 : Un Tryz.prog 358 (.slice 3) := ⟨Tryz.runUnderlying358⟩
instance yAxC_137 : Pp Tryz.prog 216 := ⟨Tryz.underlying216⟩
instance yAxC_138 : Pp Tryz.prog 266 := ⟨Tryz.underlying266⟩
instance yAxC_139 : Pp Tryz.prog 282 := ⟨Tryz.underlying282⟩
instance yAxC_140 : Zc Tryz.prog 25 (cI (⟨false, 0⟩ : GI)) := ⟨⟨_, Tryz.zeroValue25, rfl⟩⟩
instance yAxC_141 : Zc Tryz.prog 27 (cQ oQ) := ⟨⟨_, Tryz.zeroValue27, rfl⟩⟩
instance yAxC_142 : Zc Tryz.prog 50 [.slice none 0 0] := ⟨⟨_, Tryz.zeroValue50, rfl⟩⟩
instance yAxC_143 : Zc Tryz.prog 53 (cD oD) := ⟨⟨_, Tryz.zeroValue53, rfl⟩⟩
instance yAxC_144 : Zc Tryz.prog 57 [.slice none 0 0] := ⟨⟨_, Tryz.zeroValue57, rfl⟩⟩
instance yAxC_145 : Zc Tryz.prog 71 (cR (⟨oQ, oQ, false⟩ : GR)) := ⟨⟨_, Tryz.zeroValue71, rfl⟩⟩
instance yAxC_146 : Zc Tryz.prog 79 (cN (⟨oQ, oQ, oQ, oQ⟩ : Ln)) := ⟨⟨_, Tryz.zeroValue79, rfl⟩⟩
instance yAxC_147 : Zc Tryz.prog 81 [.slice none 0 0] := ⟨⟨_, Tryz.zeroValue81, rfl⟩⟩
instance yAxC_148 : Zc Tryz.prog 86 (cV (⟨(⟨oQ, oQ, false⟩ : GR), (⟨oQ, oQ, false⟩ : GR), false, false⟩ : Iv)) := ⟨⟨_, Tryz.zeroValue86, rfl⟩⟩
instance yAxC_149 : Zc Tryz.prog 126 (cUD (⟨(⟨(⟨oQ, oQ, false⟩ : GR), (⟨oQ, oQ, false⟩ : GR), false, false⟩ : Iv), oD⟩ : U Qd)) := ⟨⟨_, Tryz.zeroValue126, rfl⟩⟩
instance yAxC_150 : Zc Tryz.prog 169 (cS (⟨0, 0, 0, false, 0, 0, 0⟩ : Stp)) := ⟨⟨_, Tryz.zeroValue169, rfl⟩⟩
instance yAxC_151 : Zc Tryz.prog 176 (cUI (⟨(⟨(⟨oQ, oQ, false⟩ : GR), (⟨oQ, oQ, false⟩ : GR), false, false⟩ : Iv), 0⟩ : U Int)) := ⟨⟨_, Tryz.zeroValue176, rfl⟩⟩
instance yAxC_152 : Zc Tryz.prog 199 (cUN (⟨(⟨(⟨oQ, oQ, false⟩ : GR), (⟨oQ, oQ, false⟩ : GR), false, false⟩ : Iv), (⟨oQ, oQ, oQ, oQ⟩ : Ln)⟩ : U Ln)) := ⟨⟨_, Tryz.zeroValue199, rfl⟩⟩
instance yAxC_153 : Zc Tryz.prog 206 (cW (⟨(⟨oQ, oQ, false⟩ : GR), false⟩ : Bd)) := ⟨⟨_, Tryz.zeroValue206, rfl⟩⟩
instance yAxC_154 : Zc Tryz.prog 264 (cAD (⟨(⟨oQ, oQ, false⟩ : GR), (⟨oQ, oQ, false⟩ : GR), false, false, oD⟩ : At Qd)) := ⟨⟨_, Tryz.zeroValue264, rfl⟩⟩
instance yAxC_155 : Zc Tryz.prog 321 (cE (⟨(⟨(⟨oQ, oQ, false⟩ : GR), false⟩ : Bd), 0, 0⟩ : Ev)) := ⟨⟨_, Tryz.zeroValue321, rfl⟩⟩
instance yAxC_156 : Zc Tryz.prog 334 (flat (List.replicate 8 (0 : UInt8))) := ⟨⟨_, Tryz.zeroValue334, rfl⟩⟩
instance yAxC_157 : Cf Tryz.prog 20 := ⟨Tryz.call20⟩
instance yAxC_158 : Cf Tryz.prog 21 := ⟨Tryz.call21⟩
instance yAxC_159 : Cf Tryz.prog 22 := ⟨Tryz.call22⟩
instance yAxC_160 : Cf Tryz.prog 25 := ⟨Tryz.call25⟩
instance yAxC_161 : Cf Tryz.prog 26 := ⟨Tryz.call26⟩
instance yAxC_162 : Cf Tryz.prog 27 := ⟨Tryz.call27⟩
instance yAxC_163 : Cf Tryz.prog 28 := ⟨Tryz.call28⟩
instance yAxC_164 : Cf Tryz.prog 29 := ⟨Tryz.call29⟩
instance yAxC_165 : Cf Tryz.prog 30 := ⟨Tryz.call30⟩
instance yAxC_166 : Cf Tryz.prog 31 := ⟨Tryz.call31⟩
instance yAxC_167 : Cf Tryz.prog 32 := ⟨Tryz.call32⟩
instance yAxC_168 : Cf Tryz.prog 33 := ⟨Tryz.call33⟩
instance yAxC_169 : Cf Tryz.prog 34 := ⟨Tryz.call34⟩
instance yAxC_170 : Cf Tryz.prog 35 := ⟨Tryz.call35⟩
instance yAxC_171 : Cf Tryz.prog 36 := ⟨Tryz.call36⟩
instance yAxC_172 : Cf Tryz.prog 37 := ⟨Tryz.call37⟩
instance yAxC_173 : Cf Tryz.prog 38 := ⟨Tryz.call38⟩
instance yAxC_174 : Cf Tryz.prog 39 := ⟨Tryz.call39⟩
instance yAxC_175 : Cf Tryz.prog 44 := ⟨Tryz.call44⟩
instance yAxC_176 : Cf Tryz.prog 55 := ⟨Tryz.call55⟩
instance yAxC_177 : Cf Tryz.prog 56 := ⟨Tryz.call56⟩
instance yAxC_178 : Cf Tryz.prog 57 := ⟨Tryz.call57⟩
instance yAxC_179 : Cf Tryz.prog 58 := ⟨Tryz.call58⟩
instance yAxC_180 : Cf Tryz.prog 59 := ⟨Tryz.call59⟩
instance yAxC_181 : Cf Tryz.prog 60 := ⟨Tryz.call60⟩
instance yAxC_182 : Cf Tryz.prog 61 := ⟨Tryz.call61⟩
instance yAxC_183 : Cf Tryz.prog 62 := ⟨Tryz.call62⟩
instance yAxC_184 : Cf Tryz.prog 63 := ⟨Tryz.call63⟩
instance yAxC_185 : Cf Tryz.prog 77 := ⟨Tryz.call77⟩
instance yAxC_186 : Cf Tryz.prog 85 := ⟨Tryz.call85⟩
instance yAxC_187 : Cf Tryz.prog 86 := ⟨Tryz.call86⟩
instance yAxC_188 : Cf Tryz.prog 87 := ⟨Tryz.call87⟩
instance yAxC_189 : Cf Tryz.prog 88 := ⟨Tryz.call88⟩
instance yAxC_190 : Cf Tryz.prog 92 := ⟨Tryz.call92⟩
instance yAxC_191 : Cf Tryz.prog 93 := ⟨Tryz.call93⟩
instance yAxC_192 : Cf Tryz.prog 94 := ⟨Tryz.call94⟩
instance yAxC_193 : Cf Tryz.prog 95 := ⟨Tryz.call95⟩
instance yAxC_194 : Cf Tryz.prog 96 := ⟨Tryz.call96⟩
instance yAxC_195 : Cf Tryz.prog 97 := ⟨Tryz.call97⟩
instance yAxC_196 : Cf Tryz.prog 98 := ⟨Tryz.call98⟩
instance yAxC_197 : Cf Tryz.prog 101 := ⟨Tryz.call101⟩
instance yAxC_198 : Cf Tryz.prog 107 := ⟨Tryz.call107⟩
instance yAxC_199 : Cf Tryz.prog 108 := ⟨Tryz.call108⟩
instance yAxC_200 : Cf Tryz.prog 109 := ⟨Tryz.call109⟩
instance yAxC_201 : Cf Tryz.prog 110 := ⟨Tryz.call110⟩
instance yAxC_202 : Cf Tryz.prog 111 := ⟨Tryz.call111⟩
instance yAxC_203 : Cf Tryz.prog 112 := ⟨Tryz.call112⟩
instance yAxC_204 : Cf Tryz.prog 113 := ⟨Tryz.call113⟩
instance yAxC_205 : Cf Tryz.prog 114 := ⟨Tryz.call114⟩
instance yAxC_206 : Cf Tryz.prog 115 := ⟨Tryz.call115⟩
instance yAxC_207 : Cf Tryz.prog 116 := ⟨Tryz.call116⟩
instance yAxC_208 : Cf Tryz.prog 117 := ⟨Tryz.call117⟩
instance yAxC_209 : Cf Tryz.prog 118 := ⟨Tryz.call118⟩
instance yAxC_210 : Cf Tryz.prog 119 := ⟨Tryz.call119⟩
instance yAxC_211 : Cf Tryz.prog 120 := ⟨Tryz.call120⟩
instance yAxC_212 : Cf Tryz.prog 121 := ⟨Tryz.call121⟩
instance yAxC_213 : Cf Tryz.prog 122 := ⟨Tryz.call122⟩
instance yAxC_214 : Cf Tryz.prog 123 := ⟨Tryz.call123⟩
instance yAxC_215 : Cf Tryz.prog 124 := ⟨Tryz.call124⟩
instance yAxC_216 : Cf Tryz.prog 125 := ⟨Tryz.call125⟩
instance yAxC_217 : Cf Tryz.prog 126 := ⟨Tryz.call126⟩
instance yAxC_218 : Cf Tryz.prog 127 := ⟨Tryz.call127⟩
instance yAxC_219 : Cf Tryz.prog 128 := ⟨Tryz.call128⟩
instance yAxC_220 : Cf Tryz.prog 129 := ⟨Tryz.call129⟩
instance yAxC_221 : Cf Tryz.prog 130 := ⟨Tryz.call130⟩
instance yAxC_222 : Cf Tryz.prog 131 := ⟨Tryz.call131⟩
instance yAxC_223 : Cf Tryz.prog 134 := ⟨Tryz.call134⟩
instance yAxC_224 : Cf Tryz.prog 135 := ⟨Tryz.call135⟩
instance yAxC_225 : Cf Tryz.prog 136 := ⟨Tryz.call136⟩
instance yAxC_226 : Cf Tryz.prog 137 := ⟨Tryz.call137⟩
instance yAxC_227 : Cf Tryz.prog 148 := ⟨Tryz.call148⟩
instance yAxC_228 : Cf Tryz.prog 149 := ⟨Tryz.call149⟩
instance yAxC_229 : Cf Tryz.prog 150 := ⟨Tryz.call150⟩
instance yAxC_230 : Cf Tryz.prog 151 := ⟨Tryz.call151⟩
instance yAxC_231 : Cf Tryz.prog 152 := ⟨Tryz.call152⟩
instance yAxC_232 : Cf Tryz.prog 153 := ⟨Tryz.call153⟩
instance yAxC_233 : Cf Tryz.prog 154 := ⟨Tryz.call154⟩
instance yAxC_234 : Cf Tryz.prog 155 := ⟨Tryz.call155⟩
instance yAxC_235 : Cf Tryz.prog 156 := ⟨Tryz.call156⟩
instance yAxC_236 : Cf Tryz.prog 157 := ⟨Tryz.call157⟩
instance yAxC_237 : Cf Tryz.prog 158 := ⟨Tryz.call158⟩
instance yAxC_238 : Cf Tryz.prog 159 := ⟨Tryz.call159⟩
instance yAxC_239 : Cf Tryz.prog 160 := ⟨Tryz.call160⟩
instance yAxC_240 : Cf Tryz.prog 161 := ⟨Tryz.call161⟩
instance yAxC_241 : Cf Tryz.prog 178 := ⟨Tryz.call178⟩
instance yAxC_242 : Cf Tryz.prog 179 := ⟨Tryz.call179⟩
instance yAxC_243 : Cf Tryz.prog 180 := ⟨Tryz.call180⟩
instance yAxC_244 : Cf Tryz.prog 181 := ⟨Tryz.call181⟩
instance yAxC_245 : Cf Tryz.prog 187 := ⟨Tryz.call187⟩
instance yAxC_246 : Cf Tryz.prog 190 := ⟨Tryz.call190⟩
instance yAxC_247 : Cf Tryz.prog 191 := ⟨Tryz.call191⟩
instance yAxC_248 : Cf Tryz.prog 192 := ⟨Tryz.call192⟩
instance yAxC_249 : Cf Tryz.prog 193 := ⟨Tryz.call193⟩
instance yAxC_250 : Cf Tryz.prog 194 := ⟨Tryz.call194⟩
instance yAxC_251 : Cf Tryz.prog 195 := ⟨Tryz.call195⟩
instance yAxC_252 : Cf Tryz.prog 196 := ⟨Tryz.call196⟩
instance yAxC_253 : Cf Tryz.prog 201 := ⟨Tryz.call201⟩
instance yAxC_254 : Cf Tryz.prog 202 := ⟨Tryz.call202⟩
instance yAxC_255 : Cf Tryz.prog 203 := ⟨Tryz.call203⟩
instance yAxC_256 : Cf Tryz.prog 204 := ⟨Tryz.call204⟩
instance yAxC_257 : Cf Tryz.prog 205 := ⟨Tryz.call205⟩
instance yAxC_258 : Cf Tryz.prog 206 := ⟨Tryz.call206⟩
instance yAxC_259 : Cf Tryz.prog 207 := ⟨Tryz.call207⟩
instance yAxC_260 : Cf Tryz.prog 208 := ⟨Tryz.call208⟩
instance yAxC_261 : Cf Tryz.prog 209 := ⟨Tryz.call209⟩
instance yAxC_262 : Cf Tryz.prog 210 := ⟨Tryz.call210⟩
instance yAxC_263 : Cf Tryz.prog 211 := ⟨Tryz.call211⟩
instance yAxC_264 : Cf Tryz.prog 212 := ⟨Tryz.call212⟩
instance yAxC_265 : Cf Tryz.prog 213 := ⟨Tryz.call213⟩
instance yAxC_266 : Cf Tryz.prog 214 := ⟨Tryz.call214⟩
instance yAxC_267 : Cf Tryz.prog 215 := ⟨Tryz.call215⟩
instance yAxC_268 : Cf Tryz.prog 216 := ⟨Tryz.call216⟩
instance yAxC_269 : Cf Tryz.prog 219 := ⟨Tryz.call219⟩
instance yAxC_270 : Cf Tryz.prog 223 := ⟨Tryz.call223⟩
instance yAxC_271 : Cf Tryz.prog 224 := ⟨Tryz.call224⟩
instance yAxC_272 : Cf Tryz.prog 225 := ⟨Tryz.call225⟩
instance yAxC_273 : Cf Tryz.prog 226 := ⟨Tryz.call226⟩
instance yAxC_274 : Cf Tryz.prog 227 := ⟨Tryz.call227⟩
instance yAxC_275 : Cf Tryz.prog 228 := ⟨Tryz.call228⟩
instance yAxC_276 : Cf Tryz.prog 229 := ⟨Tryz.call229⟩
instance yAxC_277 : Cf Tryz.prog 230 := ⟨Tryz.call230⟩
instance yAxC_278 : Cf Tryz.prog 231 := ⟨Tryz.call231⟩
instance yAxC_279 : Cf Tryz.prog 232 := ⟨Tryz.call232⟩
instance yAxC_280 : Cf Tryz.prog 243 := ⟨Tryz.call243⟩
instance yAxC_281 : Cf Tryz.prog 244 := ⟨Tryz.call244⟩
instance yAxC_282 : Cf Tryz.prog 245 := ⟨Tryz.call245⟩
instance yAxC_283 : Cf Tryz.prog 246 := ⟨Tryz.call246⟩
instance yAxC_284 : Cf Tryz.prog 247 := ⟨Tryz.call247⟩
instance yAxC_285 : Cf Tryz.prog 249 := ⟨Tryz.call249⟩
instance yAxC_286 : Cf Tryz.prog 250 := ⟨Tryz.call250⟩
instance yAxC_287 : Cf Tryz.prog 251 := ⟨Tryz.call251⟩
instance yAxC_288 : Cf Tryz.prog 252 := ⟨Tryz.call252⟩
instance yAxC_289 : Cf Tryz.prog 253 := ⟨Tryz.call253⟩
instance yAxC_290 : Cf Tryz.prog 255 := ⟨Tryz.call255⟩
instance yAxC_291 : Cf Tryz.prog 257 := ⟨Tryz.call257⟩
instance yAxC_292 : Cf Tryz.prog 258 := ⟨Tryz.call258⟩
instance yAxC_293 : Cf Tryz.prog 259 := ⟨Tryz.call259⟩
instance yAxC_294 : Cf Tryz.prog 260 := ⟨Tryz.call260⟩
instance yAxC_295 : Cf Tryz.prog 261 := ⟨Tryz.call261⟩
instance yAxC_296 : Cf Tryz.prog 262 := ⟨Tryz.call262⟩
instance yAxC_297 : Cf Tryz.prog 263 := ⟨Tryz.call263⟩
instance yAxC_298 : Cf Tryz.prog 264 := ⟨Tryz.call264⟩
instance yAxC_299 : Cf Tryz.prog 265 := ⟨Tryz.call265⟩
instance yAxC_300 : Cf Tryz.prog 266 := ⟨Tryz.call266⟩
instance yAxC_301 : Cf Tryz.prog 267 := ⟨Tryz.call267⟩
instance yAxC_302 : Cf Tryz.prog 268 := ⟨Tryz.call268⟩
instance yAxC_303 : Cf Tryz.prog 271 := ⟨Tryz.call271⟩
instance yAxC_304 : Cf Tryz.prog 272 := ⟨Tryz.call272⟩
instance yAxC_305 : Cf Tryz.prog 273 := ⟨Tryz.call273⟩
instance yAxC_306 : Cf Tryz.prog 274 := ⟨Tryz.call274⟩
instance yAxC_307 : Cf Tryz.prog 275 := ⟨Tryz.call275⟩
instance yAxC_308 : Cf Tryz.prog 276 := ⟨Tryz.call276⟩
instance yAxC_309 : Cf Tryz.prog 278 := ⟨Tryz.call278⟩
instance yAxC_310 : Cf Tryz.prog 279 := ⟨Tryz.call279⟩
instance yAxC_311 : Cf Tryz.prog 280 := ⟨Tryz.call280⟩
instance yAxC_312 : Cf Tryz.prog 281 := ⟨Tryz.call281⟩
instance yAxC_313 : Cf Tryz.prog 282 := ⟨Tryz.call282⟩
instance yAxC_314 : Cf Tryz.prog 283 := ⟨Tryz.call283⟩
instance yAxC_315 : Cf Tryz.prog 284 := ⟨Tryz.call284⟩
instance yAxC_316 : Cf Tryz.prog 285 := ⟨Tryz.call285⟩
instance yAxC_317 : Cf Tryz.prog 286 := ⟨Tryz.call286⟩
instance yAxC_318 : Cf Tryz.prog 287 := ⟨Tryz.call287⟩
instance yAxC_319 : Cf Tryz.prog 288 := ⟨Tryz.call288⟩
instance yAxC_320 : Cf Tryz.prog 290 := ⟨Tryz.call290⟩
instance yAxC_321 : Cf Tryz.prog 292 := ⟨Tryz.call292⟩
instance yAxC_322 : Cf Tryz.prog 293 := ⟨Tryz.call293⟩
instance yAxC_323 : Cf Tryz.prog 294 := ⟨Tryz.call294⟩
instance yAxC_324 : Cf Tryz.prog 295 := ⟨Tryz.call295⟩
instance yAxC_325 : Cf Tryz.prog 297 := ⟨Tryz.call297⟩
instance yAxC_326 : Cf Tryz.prog 305 := ⟨Tryz.call305⟩
instance yAxC_327 : Cf Tryz.prog 306 := ⟨Tryz.call306⟩
instance yAxC_328 : Cf Tryz.prog 312 := ⟨Tryz.call312⟩
instance yAxC_329 : Cf Tryz.prog 314 := ⟨Tryz.call314⟩
instance yAxC_330 : Cf Tryz.prog 316 := ⟨Tryz.call316⟩
instance yAxC_331 : Cf Tryz.prog 333 := ⟨Tryz.call333⟩
instance yAxC_332 : Cf Tryz.prog 366 := ⟨Tryz.call366⟩
instance yAxC_333 : Cf Tryz.prog 367 := ⟨Tryz.call367⟩
instance yAxC_334 : Cf Tryz.prog 368 := ⟨Tryz.call368⟩
instance yAxC_335 : Cf Tryz.prog 369 := ⟨Tryz.call369⟩
instance yAxC_336 : Cf Tryz.prog 370 := ⟨Tryz.call370⟩
instance yAxC_337 : Cf Tryz.prog 371 := ⟨Tryz.call371⟩
instance yAxC_338 : Cf Tryz.prog 372 := ⟨Tryz.call372⟩
instance yAxC_339 : Cf Tryz.prog 373 := ⟨Tryz.call373⟩
instance yAxC_340 : Cf Tryz.prog 374 := ⟨Tryz.call374⟩
instance yAxC_341 : Cf Tryz.prog 375 := ⟨Tryz.call375⟩
instance yAxC_342 : Cf Tryz.prog 376 := ⟨Tryz.call376⟩
instance yAxC_343 : Sh Tryz.prog 3 GR vR := ⟨trivial⟩
instance yAxC_344 : Sh Tryz.prog 4 Qd vD := ⟨trivial⟩
instance yAxC_345 : Sh Tryz.prog 25 GI vI := ⟨trivial⟩
instance yAxC_346 : Sh Tryz.prog 27 GQ vQ := ⟨trivial⟩
instance yAxC_347 : Sh Tryz.prog 53 Qd vD := ⟨trivial⟩
instance yAxC_348 : Sh Tryz.prog 71 GR vR := ⟨trivial⟩
instance yAxC_349 : Sh Tryz.prog 79 Ln vN := ⟨trivial⟩
instance yAxC_350 : Sh Tryz.prog 86 Iv vV := ⟨trivial⟩
instance yAxC_351 : Sh Tryz.prog 199 (U Ln) vUN := ⟨trivial⟩
instance yAxC_352 : Sh Tryz.prog 206 Bd vW := ⟨trivial⟩
instance yAxC_353 : Ub Tryz.prog 4 := ⟨Tryz.underlying4⟩
end Go.Sx
