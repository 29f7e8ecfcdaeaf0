/- A part of the proof of movingpointSamples. -/
import Derived.Test.YtbenbmdkhcfcfaaGreatDoorV2
import Derived.Test.YtbenbmdkhcfcfaaGreatDoorProg
set_option linter.unusedVariables false
set_option linter.unusedSimpArgs false
open Go.Proofs.Tryz renaming runUnderlying25 → uu25, runUnderlying27 → uu27, runUnderlying53 → uu53, runUnderlying71 → uu71, runUnderlying79 → uu79, runUnderlying86 → uu86, runUnderlying126 → uu126, runUnderlying169 → uu169, runUnderlying176 → uu176, runUnderlying182 → uu182, runUnderlying199 → uu199, runUnderlying206 → uu206, runUnderlying264 → uu264, runUnderlying321 → uu321
namespace Go.Sx
open Go Go.RowKit
class Sz (P : Program) (t : TypeId) (n : outParam Nat) : Prop where h : ∀ w, (sizeOf t).run P w = .ok n w
class Un (P : Program) (t : TypeId) (d : outParam TypeDesc) : Prop where h : ∀ w, (underlying t).run P w = .ok d w
class Fl (P : Program) (s : TypeId) (f : Nat) (ft : outParam TypeId) (off : outParam Nat) : Prop where h : ∃ (fs : Array Field) (fld : Field), (∀ w, (underlying s).run P w = .ok (.struct fs) w) ∧ fs[f]? = some fld ∧ fld.type = ft ∧ fld.offset = off
class Ag (P : Program) (t : TypeId) (b : outParam Bool) : Prop where h : ∀ w, (isAgg t).run P w = .ok b w
class Zc (P : Program) (t : TypeId) (cs : outParam (List Value)) : Prop where h : ∃ z : Value, (∀ w, (zeroValue t).run P w = .ok z w) ∧ z.cells.toList = cs
class Cf (P : Program) (f : FuncId) : Prop where h : ∀ args w, (callFunc f args).run P w = .ok (.enter f args) w
class Mt (P : Program) (T : TypeId) (u : Value) (name : String) (f : outParam FuncId) : Prop where h : ∀ w, (method (P.types.size + Made.depth) T u name).run P w = .ok (f, u) w
class Nl (P : Program) (T : TypeId) (u : Value) (name : String) : Prop where h : ∀ w, (nilAhead (P.types.size + Made.depth) T u name).run P w = .ok (some false) w
class Pp (P : Program) (t : TypeId) : Prop where h : P.underlying t = some (.pointer (P.pointee t))
class Sh (P : Program) (t : TypeId) (α : outParam Type) (val : outParam (α → Value)) : Prop where h : True
class Ep (P : Program) (t : TypeId) (α : outParam Type) (d : outParam (DecidableEq α)) (val : outParam (α → Value)) : Prop where h : @EqP P t α d val
class Cel (v : Value) (cs : outParam (List Value)) : Prop where h : v.cells.toList = cs
class Dc (cs : List Value) (v : outParam Value) : Prop where h : mkv true cs = v
instance yAxS_1 (x : GI) : Cel (vI x) (cI x) := ⟨rfl⟩
instance yAxS_2 (x : GQ) : Cel (vQ x) (cQ x) := ⟨rfl⟩
instance yAxS_3 (x : GR) : Cel (vR x) (cR x) := ⟨rfl⟩
instance yAxS_4 (x : Iv) : Cel (vV x) (cV x) := ⟨rfl⟩
instance yAxS_5 (x : Qd) : Cel (vD x) (cD x) := ⟨rfl⟩
instance yAxS_6 (x : Ln) : Cel (vN x) (cN x) := ⟨rfl⟩
instance yAxS_7 (x : U Ln) : Cel (vUN x) (cUN x) := ⟨rfl⟩
instance yAxS_8 : Cel (.agg #[]) [] := ⟨rfl⟩
instance yAxS_9 (k : IntKind) (n : Int) : Cel (.int k n) [.int k n] := ⟨rfl⟩
instance yAxS_10 (b : Bool) : Cel (.bool b) [.bool b] := ⟨rfl⟩
instance yAxS_11 (b k : Nat) : Cel (ptr b k) [ptr b k] := ⟨rfl⟩
instance yAxS_12 (s : ByteArray) : Cel (.string s) [.string s] := ⟨rfl⟩
instance yAxS_13 (x : GI) : Dc (cI x) (vI x) := ⟨rfl⟩
instance yAxS_14 (x : GQ) : Dc (cQ x) (vQ x) := ⟨rfl⟩
instance yAxS_15 (x : GR) : Dc (cR x) (vR x) := ⟨rfl⟩
instance yAxS_16 (x : Iv) : Dc (cV x) (vV x) := ⟨rfl⟩
instance yAxS_17 (x : Qd) : Dc (cD x) (vD x) := ⟨rfl⟩
instance yAxS_18 (x : Ln) : Dc (cN x) (vN x) := ⟨rfl⟩
instance yAxS_19 (x : U Ln) : Dc (cUN x) (vUN x) := ⟨rfl⟩
abbrev iN (n : Nat) : Value := .int .i64 (n : Int)
def zc : List Nat → List Value
  | [] => []
  | 1 :: l => .bool false :: zc l
  | 2 :: l => .bool false :: .string ⟨#[]⟩ :: zc l
  | _ :: l => .int .i64 0 :: zc l
theorem og {p : Prop} (h : p := by first | omega | (simp at hg; omega) | grind) : p := h
theorem asA {p : Prop} (h : p := by assumption) : p := h
theorem rfZ {p : Prop} (h : p := by rfl) : p := h
theorem clA {p : Prop} (h : p := by infer_instance) : p := h
theorem ex {p : Prop} (h : p := by first | exact cH rfl hg | rfl) : p := h
section
variable {P : Program} {w0 w : World} {F : List (Nat × Value)} {L : List Asn}
theorem exs_nil : evs F [] = some [] := rfl
theorem exs_cons {x : Operand} {xs : List Operand} {v : Value} {vs : List Value} (h : ev F x = some v) (hs : evs F xs = some vs) : evs F (x :: xs) = some (v :: vs) := iP h hs
theorem exs {p : Prop} (h : p := by first | (repeat (first | exact exs_nil | (apply exs_cons; exact ex))) | rfl) : p := h
theorem slA {p : Prop} (h : p := by first | assumption | exact View.sl (by assumption) | exact St.row_sl h 0 rfl | exact St.row_sl h 1 rfl | exact St.row_sl h 2 rfl | exact St.row_sl h 3 rfl | exact St.row_sl h 4 rfl | exact St.row_sl h 5 rfl | exact St.row_sl h 6 rfl) : p := h
theorem nn_v {α : Type} [Cod α] {sv : Value} {xs : List α} {i : Nat} (h : View w sv xs) (hi : i < xs.length) : NN sv xs.length ∧ i < xs.length := ⟨h.nn hi, hi⟩
theorem nn_r {α : Type} [Cod α] {N : Nat} {a : Act} {e : TypeId} {sv : Value} {xs : List α} {i : Nat} (h : St w0 N F L a w) (j : Nat) (hj : L[j]? = some (Asn.row e sv xs)) (hi : i < xs.length) : NN sv xs.length ∧ i < xs.length := ⟨h.row_nn j hj (Nat.zero_lt_of_lt hi), hi⟩
theorem nn_n {sv : Value} {n i : Nat} (h : NN sv n) (hi : i < n) : NN sv n ∧ i < n := ⟨h, hi⟩
theorem nnA {p : Prop} (h : p := by first | exact nn_v (by assumption) og | exact nn_r h 0 rfl og | exact nn_r h 1 rfl og | exact nn_r h 2 rfl og | exact nn_r h 3 rfl og | exact nn_r h 4 rfl og | exact nn_r h 5 rfl og | exact nn_r h 6 rfl og | exact nn_n (by assumption) og) : p := h
theorem nw_v {α : Type} [Cod α] {sv : Value} {xs : List α} (h : View w sv xs) (hi : 0 < xs.length) : NN sv xs.length := h.nn hi
theorem nnB {p : Prop} (h : p := by first | exact nw_v (by assumption) og | exact St.row_nn h 0 rfl og | exact St.row_nn h 1 rfl og | exact St.row_nn h 2 rfl og | exact St.row_nn h 3 rfl og | exact St.row_nn h 4 rfl og | exact St.row_nn h 5 rfl og | exact St.row_nn h 6 rfl og | assumption) : p := h
variable {x y ix : Operand} {t e tt s : TypeId} {k : IntKind}
theorem a_ia {sv : Value} {n i m : Nat} [hu : Un P t (.slice e)] [hz : Sz P e m] (hx : ev F x = some sv) (hi : ev F ix = some (.int k (i : Int))) (hs : NN sv n ∧ i < n) : Rd P w0 F [] (.indexAddr t x ix) (sel sv (i * m + 0)) := fh hu.h hz.h hx hi hs.1 hs.2
theorem a_fa {f ft off n b k k' : Nat} [hu : Fl P s f ft off] [hz : Sz P ft n] (hn : Nat.beq n 0 = false) (hx : ev F x = some (ptr b k)) (hk : k + off = k') : Rd P w0 F [] (.fieldAddr s x f) (ptr b k') := by
  obtain ⟨fs, fld, h1, h2, rfl, rfl⟩ := hu.h
  exact fa h1 h2 hz.h hn hx hk
theorem a_fs {f ft off n m b k k' : Nat} {sv : Value} [hu : Fl P s f ft off] [hz : Sz P ft n] (hn : Nat.beq n 0 = false) (hx : ev F x = some (sel sv (b + k))) (hs : NN sv m) (hk : k + off = k') : Rd P w0 F [] (.fieldAddr s x f) (sel sv (b + k')) := by
  obtain ⟨fs, fld, h1, h2, rfl, rfl⟩ := hu.h
  exact Go.Sx.fs h1 h2 hz.h hn hs hx (by rw [← hk, Nat.add_assoc])
theorem a_len {sv : Value} {n : Nat} [hu : Un P t (.slice e)] (hx : ev F x = some sv) (hs : SL sv n) : Rd P w0 F [] (.call ⟨.builtin .len, #[x], #[t]⟩) (.int .i64 (n : Int)) := eQ hu.h hx hs
theorem a_ldW {n b : Nat} {cs : List Value} {v : Value} [ht : Ag P t true] [hz : Sz P t n] (hx : ev F x = some (ptr b 0)) (hn : Nat.blt 0 n = true) (hl : cs.length = n) [hv : Dc cs v] : Rd P w0 F [Asn.blk b cs e] (.load t x) v :=
  gp ht.h hz.h hx hn (by rw [List.drop_zero, ← hl, List.take_length]) (by rw [List.drop_zero, ← hl, List.take_length]; exact hv.h)
theorem a_ldS {α : Type} {val : α → Value} {y : α} {agg : Bool} {n b k : Nat} {cs : List Value} [ht : Ag P t agg] [hz : Sz P t n] [Sh P t α val] (hx : ev F x = some (ptr b k)) (hn : Nat.blt 0 n = true) (hl : ((cs.drop k).take n).length = n) (hv : mkv agg ((cs.drop k).take n) = val y) : Rd P w0 F [Asn.blk b cs e] (.load t x) (val y) := gp ht.h hz.h hx hn hl hv
theorem a_ld1 {n b k : Nat} {cs : List Value} {v : Value} [ht : Ag P t false] [hz : Sz P t n] (hx : ev F x = some (ptr b k)) (hn : Nat.blt 0 n = true) (hl : ((cs.drop k).take n).length = n) (hv : cs[k]? = some v) : Rd P w0 F [Asn.blk b cs e] (.load t x) v :=
  gp ht.h hz.h hx hn hl (by
    have : ((cs.drop k).take n)[0]? = some v := by
      rw [List.getElem?_take_of_lt (Nat.le_of_ble_eq_true hn), List.getElem?_drop]; simpa using hv
    cases h : (cs.drop k).take n with
    | nil => rw [h] at this; simp at this
    | cons u us => rw [h] at this; simp at this; simp [mkv, this])
theorem a_ldRS {α β : Type} [Cod α] {val : β → Value} {y : β} {agg : Bool} {n k m : Nat} {sv : Value} {xs : List α} {i : Nat} {u : α} [ht : Ag P t agg] [hz : Sz P t n] [Sh P t β val] (hx : ev F x = some (sel sv (i * m + k))) (hq : Cod.n α = m) (hi : xs[i]? = some u) (hn : Nat.blt 0 n = true)
    (hl : (((Cod.enc u).drop k).take n).length = n) (hv : mkv agg (((Cod.enc u).drop k).take n) = val y) : Rd P w0 F [Asn.row e sv xs] (.load t x) (val y) := fb ht.h hz.h hi hx (by rw [hq]) hn hl hv
theorem a_ldVS {α β : Type} [Cod α] {val : β → Value} {y : β} {agg : Bool} {n k m : Nat} {sv : Value} {xs : List α} {i : Nat} {u : α} [ht : Ag P t agg] [hz : Sz P t n] [Sh P t β val] (hx : ev F x = some (sel sv (i * m + k))) (hw : View w0 sv xs) (hq : Cod.n α = m) (hi : xs[i]? = some u) (hn : Nat.blt 0 n = true)
    (hl : (((Cod.enc u).drop k).take n).length = n) (hv : mkv agg (((Cod.enc u).drop k).take n) = val y) : Rd P w0 F [] (.load t x) (val y) := kA ht.h hz.h hw hi hx (by rw [hq]) hn hl hv
theorem one_of {cs : List Value} {n k : Nat} {v : Value} (hn : Nat.blt 0 n = true) (hv : cs[k]? = some v) : mkv false ((cs.drop k).take n) = v := by
  have : ((cs.drop k).take n)[0]? = some v := by
    rw [List.getElem?_take_of_lt (Nat.le_of_ble_eq_true hn), List.getElem?_drop]; simpa using hv
  cases h : (cs.drop k).take n with
  | nil => rw [h] at this; simp at this
  | cons u us => rw [h] at this; simp at this; simp [mkv, this]
theorem a_ldR1 {α : Type} [Cod α] {n k m : Nat} {sv v : Value} {xs : List α} {i : Nat} {u : α} [ht : Ag P t false] [hz : Sz P t n] (hx : ev F x = some (sel sv (i * m + k))) (hq : Cod.n α = m) (hi : xs[i]? = some u) (hn : Nat.blt 0 n = true)
    (hl : (((Cod.enc u).drop k).take n).length = n) (hv : (Cod.enc u)[k]? = some v) : Rd P w0 F [Asn.row e sv xs] (.load t x) v := fb ht.h hz.h hi hx (by rw [hq]) hn hl (one_of hn hv)
theorem a_ldV1 {α : Type} [Cod α] {n k m : Nat} {sv v : Value} {xs : List α} {i : Nat} {u : α} [ht : Ag P t false] [hz : Sz P t n] (hx : ev F x = some (sel sv (i * m + k))) (hw : View w0 sv xs) (hq : Cod.n α = m) (hi : xs[i]? = some u) (hn : Nat.blt 0 n = true)
    (hl : (((Cod.enc u).drop k).take n).length = n) (hv : (Cod.enc u)[k]? = some v) : Rd P w0 F [] (.load t x) v := kA ht.h hz.h hw hi hx (by rw [hq]) hn hl (one_of hn hv)
theorem giA {p : Prop} (h : p := by first | exact iX og | exact lP og) : p := h
theorem hqA {p : Prop} (h : p := by rfl) : p := h
theorem hkA {p : Prop} (h : p := by first | exact Nat.zero_add _ | exact Nat.add_zero _ | rfl) : p := h
theorem a_addN {a b : Nat} (hx : ev F x = some (.int .i64 (a : Int))) (hy : ev F y = some (.int .i64 (b : Int))) (h : a + b < 9223372036854775808) : Rd P w0 F [] (.binOp .add t x y tt) (.int .i64 ((a + b : Nat) : Int)) := di hx hy (by rw [IntKind.wrap_i64]; omega)
theorem a_add1 {a : Nat} (hx : ev F x = some (.int .i64 (a : Int))) (hy : ev F y = some (.int .i64 1)) (h : a < 9223372036854775807) : Rd P w0 F [] (.binOp .add t x y tt) (.int .i64 ((a + 1 : Nat) : Int)) := di hx hy (by rw [IntKind.wrap_i64]; omega)
theorem a_sub1 {a : Nat} (hx : ev F x = some (.int .i64 (a : Int))) (hy : ev F y = some (.int .i64 1)) (h : 0 < a ∧ a ≤ 9223372036854775807) : Rd P w0 F [] (.binOp .sub t x y tt) (.int .i64 ((a - 1 : Nat) : Int)) := eP hx hy (by rw [IntKind.wrap_i64]; omega)
theorem a_eqlT {α : Type} {d : DecidableEq α} {val : α → Value} {b c : α} [he : Ep P t α d val] (hx : ev F x = some (val b)) (hy : ev F y = some (val c)) : Rd P w0 F [] (.binOp .eql t x y tt) (.bool (decide (b = c))) := r_eqlT he.h hx hy
theorem a_neqT {α : Type} {d : DecidableEq α} {val : α → Value} {b c : α} [he : Ep P t α d val] (hx : ev F x = some (val b)) (hy : ev F y = some (val c)) : Rd P w0 F [] (.binOp .neq t x y tt) (.bool (!decide (b = c))) := r_neqT he.h hx hy
theorem sY : bs 0 = ⟨#[]⟩ := rfl
theorem a_eqB0 {m : Nat} (hx : ev F x = some (.string (bs m))) (hy : ev F y = some (.string ⟨#[]⟩)) : Rd P w0 F [] (.binOp .eql t x y tt) (.bool (decide (m = 0))) := rR hx (by rw [hy, sY])
theorem a_neB0 {m : Nat} (hx : ev F x = some (.string (bs m))) (hy : ev F y = some (.string ⟨#[]⟩)) : Rd P w0 F [] (.binOp .neq t x y tt) (.bool (!decide (m = 0))) := rO hx (by rw [hy, sY])
theorem a_nilS {sv : Value} {n q : Nat} (hx : ev F x = some (sel sv q)) (hn : NN sv n) : Rd P w0 F [] (.nilCheck x) (sel sv q) := r_nilS hn hx
theorem a_nilM {m : String} {T : TypeId} {u : Value} [hn : Nl P T u m] (hx : ev F x = some (.func (.method m) #[.iface T u] #[])) : Rd P w0 F [] (.nilCheck x) (.func (.method m) #[.iface T u] #[]) := r_nilM hx hn.h
theorem a_neqPS {sv : Value} {n q : Nat} [hu : Pp P t] (hx : ev F x = some (sel sv q)) (hn : NN sv n) : Rd P w0 F [] (.binOp .neq t x (.const (.pointer none)) tt) (.bool true) := r_neqPS hu.h hn hx
theorem a_neqPN [hu : Pp P t] (hx : ev F x = some (.pointer none)) : Rd P w0 F [] (.binOp .neq t x (.const (.pointer none)) tt) (.bool false) := mh hu.h hx
class On : Prop where t : True
theorem a_iaA [On] (i : Nat) {b o0 n m : Nat} [hu : Un P t (.array n e)] [hz : Sz P e m] (hx : ev F x = some (ptr b o0)) (hi : ev F ix = some (.int k (i : Int))) (h : Nat.blt i n = true) : Rd P w0 F [] (.indexAddr t x ix) (ptr b (o0 + i * m)) := j5 hu.h hz.h hx hi (Nat.le_of_ble_eq_true h)
theorem a_addI [On] {a b : Int} (hx : ev F x = some (.int .i64 a)) (hy : ev F y = some (.int .i64 b)) (h : -9223372036854775808 ≤ a + b ∧ a + b < 9223372036854775808) : Rd P w0 F [] (.binOp .add t x y tt) (.int .i64 (a + b)) := di hx hy (by rw [IntKind.wrap_i64]; omega)
class Bu (P : Program) (t : TypeId) (ix : List Nat) (vs : List Value) (v : outParam Value) : Prop where h : ∀ {w0 : World} {F : List (Nat × Value)} {parts : List (Nat × Operand)}, parts.map (·.1) = ix → evs F (parts.map (·.2)) = some vs → Rd P w0 F [] (.build t parts.toArray) v
inductive PX (F : List (Nat × Value)) : List (Nat × Operand) → List Nat → List Value → Prop
  | nil : PX F [] [] []
  | cons {i : Nat} {x : Operand} {v : Value} {ps : List (Nat × Operand)} {is : List Nat} {vs : List Value} (h : ev F x = some v) (k : PX F ps is vs) : PX F ((i, x) :: ps) (i :: is) (v :: vs)
theorem PX.ok {ps : List (Nat × Operand)} {is : List Nat} {vs : List Value} (h : PX F ps is vs) : ps.map (·.1) = is ∧ evs F (ps.map (·.2)) = some vs := by
  induction h with
  | nil => exact ⟨rfl, rfl⟩
  | cons h _ ih => exact ⟨by rw [List.map_cons, ih.1], iP h ih.2⟩
theorem pxA {p : Prop} (h : p := by repeat (first | exact PX.nil | (apply PX.cons; exact ex))) : p := h
theorem a_bd {parts : List (Nat × Operand)} {ix : List Nat} {vs : List Value} {v : Value} (hx : PX F parts ix vs) (hb : Bu P t ix vs v) : Rd P w0 F [] (.build t parts.toArray) v := hb.h hx.ok.1 hx.ok.2
theorem Bu.of {ix : List Nat} {vs zero cells : List Value} {places : List (Nat × Nat)} {v : Value} (hb : BuildF P t zero places) (hf : ls (fun i => places[i]?) zero (ix.zip vs) = some cells) (hv : Value.agg cells.toArray = v) : Bu P t ix vs v := ⟨fun hi hx => bD hb hx (by rw [hi]; exact hf) hv⟩
class Ie (P : Program) (t : TypeId) : Prop where h : ∀ {w0 : World} {F : List (Nat × Value)} {x : Operand} {v : Value}, ev F x = some v → Rd P w0 F [] (.makeInterface t x) (.iface t v)
theorem a_if {v : Value} [hi : Ie P t] (hx : ev F x = some v) : Rd P w0 F [] (.makeInterface t x) (.iface t v) := hi.h hx
class Ub (P : Program) (t : TypeId) : Prop where h : P.underlying t = some .bool
theorem a_eqB [On] {b c : Bool} [hu : Ub P t] (hx : ev F x = some (.bool b)) (hy : ev F y = some (.bool c)) : Rd P w0 F [] (.binOp .eql t x y tt) (.bool (b == c)) := r_eqlB hu.h hx hy
theorem a_neB [On] {b c : Bool} [hu : Ub P t] (hx : ev F x = some (.bool b)) (hy : ev F y = some (.bool c)) : Rd P w0 F [] (.binOp .neq t x y tt) (.bool (b != c)) := nq hu.h hx hy
theorem rdA {p : Prop} (h : p := by first | exact ap ex | exact aw ex | exact oO ex ex | exact r_neq ex ex | exact fQ ex ex | exact r_gtr ex ex | exact rQ ex ex | exact r_leq ex ex | exact r_not ex | exact bU ex rfZ | exact r_and rfl (fun e => cH rfl e) | exact r_or rfl (fun e => cH rfl (notI e)) | exact r_and ex (fun e => cH rfl (andI hg e)) | exact r_or ex (fun e => cH rfl (andI hg (notI e))) | exact a_fa rfZ ex hkA | exact a_ia ex ex nnA | exact a_fs rfZ ex nnB hkA | exact a_len ex slA | exact a_ldVS ex asA hqA giA rfZ rfZ rfZ | exact a_ldV1 ex asA hqA giA rfZ rfZ rfZ | exact a_add1 ex ex og | exact a_sub1 ex ex og | exact a_addN ex ex og | exact a_eqlT ex ex | exact a_neqT ex ex | exact rR ex ex | exact rO ex ex | exact a_eqB0 ex ex | exact a_neB0 ex ex | exact a_nilS ex nnB | exact r_nilP ex | exact a_neqPN ex | exact a_neqPS ex nnB | exact oN ex | exact a_nilM ex | exact a_if ex | exact a_addI ex ex og | exact a_iaA 0 ex ex rfZ | exact a_iaA 1 ex ex rfZ | exact a_eqB ex ex | exact a_neB ex ex | exact a_bd pxA clA) : p := h
end
section
variable {P : Program} {t e : TypeId} {n k i m : Nat} {cs : List Value} {v : Value}
def L1 (P : Program) (cs : List Value) (e : TypeId) (k : Nat) (t : TypeId) (v : Value) : Prop := ∀ (w0 : World) (F : List (Nat × Value)) (x : Operand) (b : Nat), ev F x = some (ptr b k) → Rd P w0 F [Asn.blk b cs e] (.load t x) v
theorem l1W [Ag P t true] [Sz P t n] (hn : Nat.blt 0 n = true) (hl : cs.length = n) [Dc cs v] : L1 P cs e 0 t v := fun _ _ _ _ hx => a_ldW hx hn hl
theorem l1S {α : Type} {val : α → Value} {y : α} {agg : Bool} [Ag P t agg] [Sz P t n] [Sh P t α val] (hn : Nat.blt 0 n = true) (hl : ((cs.drop k).take n).length = n) (hv : mkv agg ((cs.drop k).take n) = val y) : L1 P cs e k t (val y) := fun _ _ _ _ hx => a_ldS hx hn hl hv
theorem l11 [Ag P t false] [Sz P t n] (hn : Nat.blt 0 n = true) (hl : ((cs.drop k).take n).length = n) (hv : cs[k]? = some v) : L1 P cs e k t v := fun _ _ _ _ hx => a_ld1 hx hn hl hv
theorem l1A {p : Prop} (h : p := by first | exact l1W rfZ rfZ | exact l1S rfZ rfZ rfZ | exact l11 rfZ rfZ rfZ) : p := h
def LR {α : Type} [Cod α] (P : Program) (xs : List α) (e : TypeId) (q : Nat) (t : TypeId) (v : Value) : Prop := ∀ (w0 : World) (F : List (Nat × Value)) (x : Operand) (sv : Value), ev F x = some (sel sv q) → Rd P w0 F [Asn.row e sv xs] (.load t x) v
theorem lrS {α β : Type} [Cod α] {val : β → Value} {y : β} {agg : Bool} {xs : List α} {u : α} [Ag P t agg] [Sz P t n] [Sh P t β val] (hq : Cod.n α = m) (hi : xs[i]? = some u) (hn : Nat.blt 0 n = true) (hl : (((Cod.enc u).drop k).take n).length = n) (hv : mkv agg (((Cod.enc u).drop k).take n) = val y) : LR P xs e (i * m + k) t (val y) := fun _ _ _ _ hx => a_ldRS hx hq hi hn hl hv
theorem lr1 {α : Type} [Cod α] {xs : List α} {u : α} [Ag P t false] [Sz P t n] (hq : Cod.n α = m) (hi : xs[i]? = some u) (hn : Nat.blt 0 n = true) (hl : (((Cod.enc u).drop k).take n).length = n) (hv : (Cod.enc u)[k]? = some v) : LR P xs e (i * m + k) t v := fun _ _ _ _ hx => a_ldR1 hx hq hi hn hl hv
theorem lrA {p : Prop} (h : p := by first | exact lrS hqA giA rfZ rfZ rfZ | exact lr1 hqA giA rfZ rfZ rfZ) : p := h
def LB (P : Program) (L : List Asn) (b k : Nat) (t : TypeId) (v : Value) : Prop := ∃ (i : Nat) (cs : List Value) (e : TypeId), L[i]? = some (Asn.blk b cs e) ∧ L1 P cs e k t v
theorem lb (i : Nat) {L : List Asn} {b : Nat} (hi : L[i]? = some (Asn.blk b cs e)) (h : L1 P cs e k t v) : LB P L b k t v := ⟨i, cs, e, hi, h⟩
def LW (P : Program) (L : List Asn) (sv : Value) (q : Nat) (t : TypeId) (v : Value) : Prop := ∃ (i : Nat) (α : Type) (_ : Cod α) (xs : List α) (e : TypeId), L[i]? = some (Asn.row e sv xs) ∧ LR P xs e q t v
theorem lw (i : Nat) {L : List Asn} {sv : Value} {q : Nat} {α : Type} [c : Cod α] {xs : List α} (hi : L[i]? = some (Asn.row e sv xs)) (h : LR P xs e q t v) : LW P L sv q t v := ⟨i, α, c, xs, e, hi, h⟩
variable {w0 : World} {F : List (Nat × Value)} {L : List Asn} {x : Operand} {b q : Nat} {sv : Value}
theorem Rd_b (hx : ev F x = some (ptr b k)) (h : LB P L b k t v) : Rd P w0 F L (.load t x) v := by
  obtain ⟨i, cs, e, hi, h⟩ := h
  exact (h w0 F x b hx).of_mem hi
theorem Rd_s (hx : ev F x = some (sel sv q)) (h : LW P L sv q t v) : Rd P w0 F L (.load t x) v := by
  obtain ⟨i, _, _, _, _, hi, h⟩ := h
  exact (h w0 F x sv hx).of_mem hi
end
theorem ldA {p : Prop} (h : p := by
  first | (apply Rd_b; exact ex; (first | exact lb 0 rfl l1A | exact lb 1 rfl l1A | exact lb 2 rfl l1A | exact lb 3 rfl l1A | exact lb 4 rfl l1A | exact lb 5 rfl l1A | exact lb 6 rfl l1A | exact lb 7 rfl l1A | exact lb 8 rfl l1A | exact lb 9 rfl l1A | exact lb 10 rfl l1A | exact lb 11 rfl l1A)) | (apply Rd_s; exact ex; (first | exact lw 0 rfl lrA | exact lw 1 rfl lrA | exact lw 2 rfl lrA | exact lw 3 rfl lrA | exact lw 4 rfl lrA | exact lw 5 rfl lrA | exact lw 6 rfl lrA | exact lw 7 rfl lrA | exact lw 8 rfl lrA))) : p := h
theorem pT {α : Type} {c : Bool} {x y v : α} (h : c = true) (k : x = v) : (bif c then x else y) = v := (cT h).trans k
theorem pF {α : Type} {c : Bool} {x y v : α} (h : c = false) (k : y = v) : (bif c then x else y) = v := (cF h).trans k
theorem pL {S R T : Type} {x X : S ⊕ R} {f : S → T} {g : R → T} {s : S} {v : T} (h : x = X) (h' : X = .inl s) (k : f s = v) : fin x f g = v := (pi (h.trans h')).trans k
theorem pR {S R T : Type} {x X : S ⊕ R} {f : S → T} {g : R → T} {r : R} {v : T} (h : x = X) (h' : X = .inr r) (k : g r = v) : fin x f g = v := (fin_r (h.trans h')).trans k
theorem pt {p : Prop} (h : p := by
  repeat (first | (apply pT; assumption) | (apply pF; assumption) | (apply pL; assumption; assumption) | (apply pR; assumption; assumption))
  rfl) : p := h
theorem sbA {p : Prop} (h : p := by repeat (first | exact trivial | refine ⟨rfl, ?_⟩)) : p := h
section
variable {P : Program} {w0 w : World} {N : Nat} {F F' : List (Nat × Value)} {L : List Asn} {a : Act}
theorem St.rs (h : St w0 N F L a w) (hF : SubF F' F := by exact sbA) : St w0 N F' L a w := h.sub hF
theorem St.re (h : St w0 N F L a w) (ix : List Nat) (hn : ix.Nodup := by decide) (hF : SubF F' F := by exact sbA) : St w0 N F' (ix.filterMap fun i => L[i]?) a w := (h.pick ix hn).sub hF
theorem rt {fn : Func} {R : Ending → World → Prop} {rs : List ResultVar} {vs : List Value} {v : Value} (h : St w0 N F L a w) (hrs : fn.results = rs.toArray := by rfl) (hr : Res P w F L rs vs := by first | exact .tmp rfl .nil | exact .tmp rfl (.tmp rfl .nil) | exact .nil | exact .tmp rfl (.tmp rfl (.tmp rfl .nil))) (hv : oB vs = v := by rfl) (hR : R (.returned v) w) :
    bodyPost P fn R .ret a w := ret h hrs hr hv hR
end
section
variable {P : Program} {w0 : World} {N : Nat} {F : List (Nat × Value)} {L : List Asn} {ops : Array Oper} {Q : Exit → Act → World → Prop}
def thn (P : Program) (y : Code) (Q : Exit → Act → World → Prop) : Exit → Act → World → Prop := Exit.then (fun a w => y.wp P Q a w) Q
theorem t_rs {id : Nat} {l : List Oper} {y : Code} (k : ∀ a w, St w0 N F L a w → wpList P l.toArray (thn P y Q) l a w) : ∀ a w, St w0 N F L a w → (Code.seq (.region id l.toArray false) y).wp P Q a w := fun a w h => wp_seq (c_r (k a w h))
theorem t_seq {x y : Code} (k : ∀ a w, St w0 N F L a w → x.wp P (thn P y Q) a w) : ∀ a w, St w0 N F L a w → (Code.seq x y).wp P Q a w := fun a w h => wp_seq (k a w h)
theorem t_nil {y : Code} (k : ∀ a w, St w0 N F L a w → y.wp P Q a w) : ∀ a w, St w0 N F L a w → wpList P ops (thn P y Q) [] a w := fun a w h => dR (k a w h)
theorem t_nilQ (k : ∀ a w, St w0 N F L a w → Q .normal a w) : ∀ a w, St w0 N F L a w → wpList P ops Q [] a w := fun a w h => dR (k a w h)
theorem t_nrm {y : Code} (k : ∀ a w, St w0 N F L a w → y.wp P Q a w) : ∀ a w, St w0 N F L a w → thn P y Q .normal a w := k
theorem t_ret {y : Code} (k : ∀ a w, St w0 N F L a w → Q .ret a w) : ∀ a w, St w0 N F L a w → thn P y Q .ret a w := k
theorem t_ex {y : Code} {i : Nat} (k : ∀ a w, St w0 N F L a w → Q (.exit i) a w) : ∀ a w, St w0 N F L a w → thn P y Q (.exit i) a w := k
theorem t_kret {K : Act → World → Prop} (k : ∀ a w, St w0 N F L a w → Q .ret a w) : ∀ a w, St w0 N F L a w → Exit.then K Q .ret a w := k
theorem t_kex {K : Act → World → Prop} {i : Nat} (k : ∀ a w, St w0 N F L a w → Q (.exit i) a w) : ∀ a w, St w0 N F L a w → Exit.then K Q (.exit i) a w := k
theorem t_bnrm {id : Nat} (k : ∀ a w, St w0 N F L a w → Q .normal a w) : ∀ a w, St w0 N F L a w → Exit.inBlock id Q .normal a w := k
theorem t_bret {id : Nat} (k : ∀ a w, St w0 N F L a w → Q .ret a w) : ∀ a w, St w0 N F L a w → Exit.inBlock id Q .ret a w := k
theorem t_bex {id i : Nat} (hi : Nat.beq i id = true) (k : ∀ a w, St w0 N F L a w → Q .normal a w) : ∀ a w, St w0 N F L a w → Exit.inBlock id Q (.exit i) a w := fun a w h => by
  show if i = id then _ else _
  rw [if_pos (Nat.eq_of_beq_eq_true hi)]; exact k a w h
theorem t_bex' {id i : Nat} (hi : Nat.beq i id = false) (k : ∀ a w, St w0 N F L a w → Q (.exit i) a w) : ∀ a w, St w0 N F L a w → Exit.inBlock id Q (.exit i) a w := fun a w h => by
  show if i = id then _ else _
  rw [if_neg (fun e => by rw [e, Nat.beq_refl] at hi; cases hi)]; exact k a w h
theorem gld {rest : List Oper} {ty : TypeId} {pos : String} {aft : Array Edge} {d : Nat} {t : TypeId} {x : Operand} {v : Value} (hs : Rd P w0 F L (.load t x) v) (hd : Nat.blt d N = true) (k : ∀ a w, St w0 N ((d, v) :: F) L a w → wpList P ops Q rest a w) :
    ∀ a w, St w0 N F L a w → wpList P ops Q (⟨some d, .load t x, ty, pos, aft, none⟩ :: rest) a w := fun a w h => rd h hs hd k
theorem q5 (i : Nat) {rest : List Oper} {ty : TypeId} {pos : String} {aft : Array Edge} {t e : TypeId} {x y : Operand} {b n : Nat} {v : Value} {cs us : List Value} (hx : ev F x = some (ptr b 0)) (hi : L[i]? = some (Asn.blk b cs e)) [hz : Sz P t n] (hy : ev F y = some v)
    (hc : Cel v us) (hn : us.length = n) (h1 : us.all Value.oneCell' = true) (hf : Nat.beq n cs.length = true)
    (c : ∀ a w, St w0 N F (L.set i (Asn.blk b us e)) a w → wpList P ops Q rest a w) : ∀ a w, St w0 N F L a w → wpList P ops Q (⟨none, .store t x y, ty, pos, aft, none⟩ :: rest) a w :=
  gs i us hi hz.h hx hy hc.h hn h1 (by rw [Nat.zero_add, ← Nat.eq_of_beq_eq_true hf]; exact Nat.ble_self_eq_true n) (by
    have := Nat.eq_of_beq_eq_true hf
    simp [spl, hn, this]) c
theorem t_g {j dj : Nat} {want c b g : Bool} {rest : List Oper} {ty : TypeId} {pos : String} {aft : Array Edge} {op : Op} {d : Nat} (hj : (ops[j]?).bind (·.dst) = some dj) (hl : look F dj = some (gv c (.bool b)) ∨ (look F dj = some (.bool b) ∧ c = true)) (hg : (c && (b == want)) = g) {v : Value} (hs : g = true → Rd P w0 F L op v) (hd : Nat.blt d N = true)
    (k : ∀ a w, St w0 N ((d, gv g v) :: F) L a w → wpList P ops Q rest a w) : ∀ a w, St w0 N F L a w → wpList P ops Q (⟨some d, op, ty, pos, aft, some (j, want)⟩ :: rest) a w := fun _ _ h => by
  rcases hl with hl | ⟨hl, rfl⟩
  · exact gd h hj hl hg (fun e => (hs e).step) hd k
  · exact gd (c := true) h hj hl hg (fun e => (hs e).step) hd k
end
attribute [irreducible] thn
section
variable {P : Program} {w0 : World} {N : Nat} {F F' : List (Nat × Value)} {L L' : List Asn} {ops : Array Oper} {Q : Exit → Act → World → Prop} {R R' : Act → World → Prop}
theorem rgA {p : Prop} (h : p := by first | exact ldA | exact Rd.of_nil rdA) : p := h
theorem wu {p : Prop} (h : p := by
  intro k
  repeat (first | (apply g0; exact rdA; exact rfl) | refine t_rs ?_ | refine t_nil ?_ | refine t_seq ?_ | refine t_nrm ?_ | (apply gld; exact ldA; exact rfl) | refine gS ?_ | refine gB ?_ | refine gR ?_ | refine t_bnrm ?_ | refine gE ?_ | refine gT ?_ | refine t_ret ?_ | refine t_bret ?_ | refine t_kret ?_ | refine t_bex rfl ?_ | refine t_bex' rfl ?_ | refine t_ex ?_ | refine t_kex ?_ | (apply q5 0; exact ex; exact rfl; exact ex; infer_instance; exact rfl; exact rfl; exact rfl) | (apply q5 1; exact ex; exact rfl; exact ex; infer_instance; exact rfl; exact rfl; exact rfl) | (apply q5 2; exact ex; exact rfl; exact ex; infer_instance; exact rfl; exact rfl; exact rfl) | (apply q5 3; exact ex; exact rfl; exact ex; infer_instance; exact rfl; exact rfl; exact rfl) | (apply q5 4; exact ex; exact rfl; exact ex; infer_instance; exact rfl; exact rfl; exact rfl) | (apply q5 5; exact ex; exact rfl; exact ex; infer_instance; exact rfl; exact rfl; exact rfl) | (apply q5 6; exact ex; exact rfl; exact ex; infer_instance; exact rfl; exact rfl; exact rfl) | (apply q5 7; exact ex; exact rfl; exact ex; infer_instance; exact rfl; exact rfl; exact rfl) | (apply q5 8; exact ex; exact rfl; exact ex; infer_instance; exact rfl; exact rfl; exact rfl) | (apply q5 9; exact ex; exact rfl; exact ex; infer_instance; exact rfl; exact rfl; exact rfl) | (apply q5 10; exact ex; exact rfl; exact ex; infer_instance; exact rfl; exact rfl; exact rfl) | (apply q5 11; exact ex; exact rfl; exact ex; infer_instance; exact rfl; exact rfl; exact rfl) | refine t_nilQ ?_ | (apply t_g; exact rfl; (first | exact .inl rfl | exact .inr ⟨rfl, rfl⟩); (first | exact g_t | exact g_f | exact g_ct | exact g_cf); exact fun hg => rgA; exact rfl))
  exact k) : p := h
theorem W (w : (∀ a w, St w0 N F' L' a w → R' a w) → ∀ a w, St w0 N F L a w → R a w := by exact wu) (k : ∀ a w, St w0 N F' L' a w → R' a w) : ∀ a w, St w0 N F L a w → R a w := w k
theorem rx {fn : Func} {R1 : Ending → World → Prop} {rs : List ResultVar} {vs : List Value} {v : Value} {R0 : Act → World → Prop} {a : Act} {w : World} (h : St w0 N F L a w) (k : (∀ a w, St w0 N F' L' a w → bodyPost P fn R1 .ret a w) → ∀ a w, St w0 N F L a w → R0 a w := by exact wu) (hrs : fn.results = rs.toArray := by rfl)
    (hr : ∀ w, Res P w F' L' rs vs := by intro w; first | exact .tmp rfl .nil | exact .tmp rfl (.tmp rfl .nil) | exact .nil | exact .tmp rfl (.tmp rfl (.tmp rfl .nil))) (hv : oB vs = v := by rfl) (hR : ∀ a w, St w0 N F' L' a w → R1 (.returned v) w) : R0 a w := k (fun a w h => ret h hrs (hr w) hv (hR a w h)) a w h
theorem nx {I : Nat → Act → World → Prop} {n : Nat} {R0 : Act → World → Prop} {a : Act} {w : World} (h : St w0 N F L a w) (k : (∀ a w, St w0 N F' L' a w → Exit.then (fun a' w' => ∃ n', n' < n ∧ I n' a' w') Q .normal a w) → ∀ a w, St w0 N F L a w → R0 a w := by exact wu)
    (hk : ∀ a w, St w0 N F' L' a w → ∃ n', n' < n ∧ I n' a w) : R0 a w := k (fun a w h => hk a w h) a w h
variable {d : Nat} {op : Op} {rest : List Oper} {ty : TypeId} {pos : String} {aft : Array Edge}
theorem xo {v : Value} (w : (∀ a w, St w0 N F' L' a w → wpList P ops Q (⟨some d, op, ty, pos, aft, none⟩ :: rest) a w) → ∀ a w, St w0 N F L a w → R a w := by exact wu) (hs : Rd P w0 F' [] op v) (hd : Nat.blt d N = true := by rfl)
    (k : ∀ a w, St w0 N ((d, v) :: F') L' a w → wpList P ops Q rest a w) : ∀ a w, St w0 N F L a w → R a w := w fun _ _ h => rd0 h hs hd k
theorem ent_w {f : FuncId} {x : Operand} {args : Array Operand} {ats : Array TypeId} {vs cap us : List Value} (hc : ∀ args w, (callFunc f args).run P w = .ok (.enter f args) w) (hx : ev F x = some (.func (.func f) #[] cap.toArray)) (ha : evs F args.toList = some us) (hv : us ++ cap = vs) :
    Ent P F (.call ⟨.value x, args, ats⟩) f vs := hv ▸ qP hc hx ha
theorem enA {p : Prop} (h : p := by first | exact dH Cf.h exs | exact ent_i Mt.h Cf.h ex exs | exact ent_w Cf.h ex exs rfZ | exact ent_w (cap := []) Cf.h ex exs rfZ) : p := h
theorem xc {f : FuncId} {vs : List Value} {v : Value} {p : Prop} (w : (∀ a w, St w0 N F' L' a w → wpList P ops Q (⟨some d, op, ty, pos, aft, none⟩ :: rest) a w) → ∀ a w, St w0 N F L a w → R a w := by exact wu)
    (ct : ∀ w, Below w0.heap.size w0 w → (∃ U, Sep w0.heap.size w L' U) → Calls P f vs.toArray w (RetP w v p)) (he : Ent P F' op f vs := by exact enA) (hd : Nat.blt d N = true := by rfl)
    (k : ∀ a w, St w0 N ((d, v) :: F') L' a w → wpList P ops Q rest a w) : ∀ a w, St w0 N F L a w → R a w := w fun _ _ h => c_val h he ct hd k
theorem xk {f : FuncId} {vs : List Value} {v : Value} {p : Prop} (ct : ∀ w, Calls P f vs.toArray w (RetP w v p)) (w : (∀ a w, St w0 N F' L' a w → wpList P ops Q (⟨some d, op, ty, pos, aft, none⟩ :: rest) a w) → ∀ a w, St w0 N F L a w → R a w := by exact wu)
    (he : Ent P F' op f vs := by exact enA) (hd : Nat.blt d N = true := by rfl)
    (k : ∀ a w, St w0 N ((d, v) :: F') L' a w → wpList P ops Q rest a w) : ∀ a w, St w0 N F L a w → R a w := w fun _ _ h => c_val h he (kk ct) hd k
theorem xa {t : TypeId} {cs : List Value} (w : (∀ a w, St w0 N F' L' a w → wpList P ops Q (⟨some d, .alloc t, ty, pos, aft, none⟩ :: rest) a w) → ∀ a w, St w0 N F L a w → R a w := by exact wu) (hz : Zc P t cs := by infer_instance) (hd : Nat.blt d N = true := by rfl)
    (k : ∀ b a w, St w0 N ((d, ptr b 0) :: F') (Asn.blk b cs t :: L') a w → wpList P ops Q rest a w) : ∀ a w, St w0 N F L a w → R a w := w fun _ _ h => by
  obtain ⟨z, hz, hc⟩ := hz.h
  exact al h cs hz hc hd k
theorem xb {x : Operand} {v : Value} {t : TypeId} {cs : List Value} (w : (∀ a w, St w0 N F' L' a w → wpList P ops Q (⟨some d, .box t x, ty, pos, aft, none⟩ :: rest) a w) → ∀ a w, St w0 N F L a w → R a w := by exact wu) (hx : ev F' x = some v := by exact ex) (hc : Cel v cs := by infer_instance) (hd : Nat.blt d N = true := by rfl)
    (k : ∀ b a w, St w0 N ((d, ptr b 0) :: F') (Asn.blk b cs t :: L') a w → wpList P ops Q rest a w) : ∀ a w, St w0 N F L a w → R a w := w fun _ _ h => bx h cs hx hc.h hd k
theorem xs (i : Nat) {t e : TypeId} {x y : Operand} {b k n : Nat} {v : Value} {cs us : List Value} (cs' : List Value) (w : (∀ a w, St w0 N F' L' a w → wpList P ops Q (⟨none, .store t x y, ty, pos, aft, none⟩ :: rest) a w) → ∀ a w, St w0 N F L a w → R a w := by exact wu)
    (hi : L'[i]? = some (Asn.blk b cs e) := by rfl) (hz : Sz P t n := by infer_instance) (hx : ev F' x = some (ptr b k) := by exact ex) (hy : ev F' y = some v := by exact ex) (hc : Cel v us := by infer_instance) (hn : us.length = n := by rfl) (h1 : us.all Value.oneCell' = true := by rfl) (hf : Nat.ble (k + n) cs.length = true := by rfl) (hr : spl cs k us = cs' := by rfl)
    (c : ∀ a w, St w0 N F' (L'.set i (Asn.blk b cs' e)) a w → wpList P ops Q rest a w) : ∀ a w, St w0 N F L a w → R a w := w fun _ _ h => st h i cs' hi hz.h hx hy hc.h hn h1 hf hr c
theorem xg {j dj : Nat} {want c b g : Bool} {v : Value} (w : (∀ a w, St w0 N F' L' a w → wpList P ops Q (⟨some d, op, ty, pos, aft, some (j, want)⟩ :: rest) a w) → ∀ a w, St w0 N F L a w → R a w := by exact wu) (hs : g = true → Step P w0 F' L' op (· = v) (fun _ => L'))
    (hj : (ops[j]?).bind (·.dst) = some dj := by rfl) (hl : look F' dj = some (gv c (.bool b)) ∨ (look F' dj = some (.bool b) ∧ c = true) := by first | exact .inl rfl | exact .inr ⟨rfl, rfl⟩) (hg : (c && (b == want)) = g := by first | exact g_t | exact g_f | exact g_ct | exact g_cf) (hd : Nat.blt d N = true := by rfl)
    (k : ∀ a w, St w0 N ((d, gv g v) :: F') L' a w → wpList P ops Q rest a w) : ∀ a w, St w0 N F L a w → R a w := w fun _ _ h => by
  rcases hl with hl | ⟨hl, rfl⟩
  · exact gd h hj hl hg hs hd k
  · exact gd (c := true) h hj hl hg hs hd k
theorem ai {c : Operand} {x y : Code} {b : Bool} (w : (∀ a w, St w0 N F' L' a w → (Code.cond c x y).wp P Q a w) → ∀ a w, St w0 N F L a w → R a w := by exact wu) (hc : ev F' c = some (.bool b) := by rfl) (ht : ∀ a w, St w0 N F' L' a w → b = true → x.wp P Q a w) (hf : ∀ a w, St w0 N F' L' a w → b = false → y.wp P Q a w) :
    ∀ a w, St w0 N F L a w → R a w := w fun a w h => gA h hc (ht a w h) (hf a w h)
end
section
variable {P : Program} {w0 : World} {ol : List Oper} {D : List DOp} {H : List Hist}
def OB (P : Program) (w0 : World) (ol : List Oper) (D : List DOp) (H : List Hist) (os : List Oper) (ds : List DOp) (i : Nat) (G G2 : List (Nat × Value)) : Prop := Obl P w0 ol D H os ds i (fun _ => G) ∧ ∀ ξ, endF os ds i ξ G = G2
variable {os : List Oper} {ds : List DOp} {i t : Nat} {G G2 : List (Nat × Value)} {op : Op} {ty : TypeId} {pos : String} {aft : Array Edge} {g : Option (Nat × Bool)} {v : Value} {acc : List Nat}
theorem o_s (h : ∀ ξ, ObS P w0 ol H (fun _ => G) ξ i ⟨some t, op, ty, pos, aft, g⟩ ⟨.det v, acc⟩) (k : OB P w0 ol D H os ds (i + 1) ((t, v) :: G) G2) : OB P w0 ol D H (⟨some t, op, ty, pos, aft, g⟩ :: os) (⟨.det v, acc⟩ :: ds) i G G2 :=
  ⟨⟨fun ξ _ => h ξ, k.1⟩, k.2⟩
theorem o_n (h : ∀ ξ, ObS P w0 ol H (fun _ => G) ξ i ⟨none, op, ty, pos, aft, g⟩ ⟨.det v, acc⟩) (k : OB P w0 ol D H os ds (i + 1) G G2) : OB P w0 ol D H (⟨none, op, ty, pos, aft, g⟩ :: os) (⟨.det v, acc⟩ :: ds) i G G2 :=
  ⟨⟨fun ξ _ => h ξ, k.1⟩, k.2⟩
theorem o_e : OB P w0 ol D H [] [] i G G := ⟨trivial, fun _ => rfl⟩
section
variable {ξ : Nat → Value} {GG : (Nat → Value) → List (Nat × Value)} {tl : TypeId} {xl : Operand} {dst : Option Tmp} {b k : Nat} {sv : Value} {q : Nat} {e : TypeId} {cs : List Value}
def LD (P : Program) (H : List Hist) (ξ : Nat → Value) (i : Nat) (acc : List Nat) (b k : Nat) (t : TypeId) (v : Value) : Prop := ∃ cs e, cc H acc i ξ = [Asn.blk b cs e] ∧ cc H acc (i + 1) (upd ξ i v) = [Asn.blk b cs e] ∧ L1 P cs e k t v
theorem ld (j : Nat) (h1 : cc H [j] i ξ = [Asn.blk b cs e]) (h2 : cc H [j] (i + 1) (upd ξ i v) = [Asn.blk b cs e]) (h3 : L1 P cs e k tl v) : LD P H ξ i [j] b k tl v := ⟨cs, e, h1, h2, h3⟩
def LE (P : Program) (H : List Hist) (ξ : Nat → Value) (i : Nat) (acc : List Nat) (sv : Value) (q : Nat) (t : TypeId) (v : Value) : Prop := ∃ (α : Type) (_ : Cod α) (xs : List α) (e : TypeId), cc H acc i ξ = [Asn.row e sv xs] ∧ cc H acc (i + 1) (upd ξ i v) = [Asn.row e sv xs] ∧ LR P xs e q t v
theorem le_ (j : Nat) {α : Type} [c : Cod α] {xs : List α} (h1 : cc H [j] i ξ = [Asn.row e sv xs]) (h2 : cc H [j] (i + 1) (upd ξ i v) = [Asn.row e sv xs]) (h3 : LR P xs e q tl v) : LE P H ξ i [j] sv q tl v := ⟨α, c, xs, e, h1, h2, h3⟩
theorem ob_l (hx : ev (eF (GG ξ) (dA (.load tl xl))) xl = some (ptr b k)) (h : LD P H ξ i acc b k tl v) : ObS P w0 ol H GG ξ i ⟨dst, .load tl xl, ty, pos, aft, none⟩ ⟨.det v, acc⟩ := by
  obtain ⟨cs, e, h1, h2, h3⟩ := h
  exact fL _ h1 h2 (h3 w0 _ _ b hx)
theorem ob_e (hx : ev (eF (GG ξ) (dA (.load tl xl))) xl = some (sel sv q)) (h : LE P H ξ i acc sv q tl v) : ObS P w0 ol H GG ξ i ⟨dst, .load tl xl, ty, pos, aft, none⟩ ⟨.det v, acc⟩ := by
  obtain ⟨α, c, xs, e, h1, h2, h3⟩ := h
  exact fL _ h1 h2 (h3 w0 _ _ sv hx)
def LG (P : Program) (H : List Hist) (ξ : Nat → Value) (i : Nat) (acc : List Nat) (b k : Nat) (t : TypeId) (v : Value) : Prop := ∃ cs e, cc H acc i ξ = [Asn.blk b cs e] ∧ (acc.all fun e => match H[e]? with | some h => h.steps.all fun p => !(Nat.beq p.1 i) | none => true) = true ∧ L1 P cs e k t v
theorem lg (j : Nat) (h1 : cc H [j] i ξ = [Asn.blk b cs e]) (h2 : ([j].all fun e => match H[e]? with | some h => h.steps.all fun p => !(Nat.beq p.1 i) | none => true) = true) (h3 : L1 P cs e k tl v) : LG P H ξ i [j] b k tl v := ⟨cs, e, h1, h2, h3⟩
variable {j : Nat} {c g c' want : Bool}
theorem ob_lg (hl : look (GG ξ) (((ol[j]?).bind (·.dst)).getD 0) = some (gv c (.bool g)) ∨ (look (GG ξ) (((ol[j]?).bind (·.dst)).getD 0) = some (.bool g) ∧ c = true)) (hd : ((ol[j]?).bind (·.dst)).isSome = true) (hg : (c && (g == want)) = c') (hx : c' = true → ev (eF (GG ξ) (dA (.load tl xl))) xl = some (ptr b k)) (h : LG P H ξ i acc b k tl v) :
    ObS P w0 ol H GG ξ i ⟨dst, .load tl xl, ty, pos, aft, some (j, want)⟩ ⟨.det (gv c' v), acc⟩ := by
  obtain ⟨cs, e, h1, h2, h3⟩ := h
  rcases hl with hl | ⟨hl, rfl⟩
  · exact gZ _ h1 h2 hl hd hg fun hg => (h3 w0 _ _ b (hx hg)).step
  · exact gZ (c := true) _ h1 h2 hl hd hg fun hg => (h3 w0 _ _ b (hx hg)).step
def LF (P : Program) (H : List Hist) (ξ : Nat → Value) (i : Nat) (acc : List Nat) (sv : Value) (q : Nat) (t : TypeId) (v : Value) (c : Bool) : Prop := ∃ (α : Type) (_ : Cod α) (xs : List α) (e : TypeId), cc H acc i ξ = [Asn.row e sv xs] ∧ (acc.all fun e => match H[e]? with | some h => h.steps.all fun p => !(Nat.beq p.1 i) | none => true) = true ∧ (c = true → LR P xs e q t v)
theorem lf (j : Nat) {α : Type} [co : Cod α] {xs : List α} (h1 : cc H [j] i ξ = [Asn.row e sv xs]) (h2 : ([j].all fun e => match H[e]? with | some h => h.steps.all fun p => !(Nat.beq p.1 i) | none => true) = true) (h3 : c = true → LR P xs e q tl v) : LF P H ξ i [j] sv q tl v c := ⟨α, co, xs, e, h1, h2, h3⟩
theorem ob_lf (hl : look (GG ξ) (((ol[j]?).bind (·.dst)).getD 0) = some (gv c (.bool g)) ∨ (look (GG ξ) (((ol[j]?).bind (·.dst)).getD 0) = some (.bool g) ∧ c = true)) (hd : ((ol[j]?).bind (·.dst)).isSome = true) (hg : (c && (g == want)) = c') (hx : c' = true → ev (eF (GG ξ) (dA (.load tl xl))) xl = some (sel sv q)) (h : LF P H ξ i acc sv q tl v c') :
    ObS P w0 ol H GG ξ i ⟨dst, .load tl xl, ty, pos, aft, some (j, want)⟩ ⟨.det (gv c' v), acc⟩ := by
  obtain ⟨α, co, xs, e, h1, h2, h3⟩ := h
  rcases hl with hl | ⟨hl, rfl⟩
  · exact gZ _ h1 h2 hl hd hg fun hg => (h3 hg w0 _ _ sv (hx hg)).step
  · exact gZ (c := true) _ h1 h2 hl hd hg fun hg => (h3 hg w0 _ _ sv (hx hg)).step
def LS (P : Program) (H : List Hist) (ξ : Nat → Value) (i : Nat) (acc : List Nat) (b k : Nat) (t : TypeId) (u : Value) : Prop := ∃ cs e cs' us n, cc H acc i ξ = [Asn.blk b cs e] ∧ cc H acc (i + 1) (upd ξ i undef) = [Asn.blk b cs' e] ∧ (∀ w, (sizeOf t).run P w = .ok n w) ∧ u.cells.toList = us ∧ us.length = n ∧ us.all Value.oneCell' = true ∧ Nat.ble (k + n) cs.length = true ∧ spl cs k us = cs'
theorem ls_ (j : Nat) {cs' us : List Value} {u : Value} {n : Nat} (h1 : cc H [j] i ξ = [Asn.blk b cs e]) (h2 : cc H [j] (i + 1) (upd ξ i undef) = [Asn.blk b cs' e]) [hz : Sz P tl n] [hc : Cel u us] (hn : us.length = n) (ho : us.all Value.oneCell' = true) (hf : Nat.ble (k + n) cs.length = true) (hr : spl cs k us = cs') : LS P H ξ i [j] b k tl u := ⟨cs, e, cs', us, n, h1, h2, hz.h, hc.h, hn, ho, hf, hr⟩
theorem ob_st {yl : Operand} {u : Value} (hx : ev (eF (GG ξ) (dA (.store tl xl yl))) xl = some (ptr b k)) (hy : ev (eF (GG ξ) (dA (.store tl xl yl))) yl = some u) (h : LS P H ξ i acc b k tl u) : ObS P w0 ol H GG ξ i ⟨dst, .store tl xl yl, ty, pos, aft, none⟩ ⟨.det undef, acc⟩ := by
  obtain ⟨cs, e, cs', us, n, h1, h2, h3, h4, h5, h6, h7, h8⟩ := h
  exact jQ _ _ h1 h2 (k7 h3 hx hy h4 h5 h6 h7 h8)
end
section
variable {ξ : Nat → Value} {GG : (Nat → Value) → List (Nat × Value)} {dst : Option Tmp}
theorem lc (j : Nat) {t : TypeId} {cs : List Value} [hz : Zc P t cs] (hA : cc H [j] i ξ = [.emp]) (hA' : ∀ b, cc H [j] (i + 1) (upd ξ i (ptr b 0)) = [Asn.blk b cs t]) : ObS P w0 ol H GG ξ i ⟨dst, .alloc t, ty, pos, aft, none⟩ ⟨.nd (.one i fun v => ∃ b, v = ptr b 0), [j]⟩ := by
  obtain ⟨z, hz, hc⟩ := hz.h
  refine kE (ψ := fun v => ∃ b, v = ptr b 0) (B := fun v => [Asn.blk (bp v) cs t]) [.emp] hA (fun v hv => ?_) (fun v hv => ?_) (gC (eL hz hc))
  · obtain ⟨b, rfl⟩ := hv; exact hA' b
  · show ∃ b, upd ξ i v i = ptr b 0
    rw [bc]; exact hv
theorem la (j : Nat) {q : Nat} {t e : TypeId} {x y : Operand} {u : Value} {cs us : List Value} {n : Nat} (hb : ∃ b, ξ q = ptr b 0) (hx : ev (eF (GG ξ) (dA (.store t x y))) x = some (ξ q)) (hy : ev (eF (GG ξ) (dA (.store t x y))) y = some u) [hz : Sz P t n] [hc : Cel u us]
    (hA : cc H [j] i ξ = [Asn.blk (bp (ξ q)) cs e]) (hA' : cc H [j] (i + 1) (upd ξ i undef) = [Asn.blk (bp (ξ q)) us e]) (hn : us.length = n) (ho : us.all Value.oneCell' = true) (hf : cs.length = n) : ObS P w0 ol H GG ξ i ⟨dst, .store t x y, ty, pos, aft, none⟩ ⟨.det undef, [j]⟩ := by
  obtain ⟨b, hb⟩ := hb
  rw [hb] at hx hA hA'
  exact jQ _ _ hA hA' (k7 hz.h hx hy hc.h hn ho (by rw [hf, Nat.zero_add]; exact Nat.ble_self_eq_true n) (by simp [spl, hn, hf]))
end
theorem oA {R : (Nat → Value) → Prop} {S : (Nat → Value) → Prop} (h : ∀ ξ, S ξ) : ∀ ξ, R ξ → S ξ := fun ξ _ => h ξ
theorem obA {p : Prop} (h : p := by
  intro ξ
  first | (apply ob_l; exact ex; (first | exact ld 0 rfl rfl l1A | exact ld 1 rfl rfl l1A | exact ld 2 rfl rfl l1A | exact ld 3 rfl rfl l1A | exact ld 4 rfl rfl l1A | exact ld 5 rfl rfl l1A | exact ld 6 rfl rfl l1A | exact ld 7 rfl rfl l1A | exact ld 8 rfl rfl l1A | exact ld 9 rfl rfl l1A | exact ld 10 rfl rfl l1A | exact ld 11 rfl rfl l1A)) | (apply ob_e; exact ex; (first | exact le_ 0 rfl rfl lrA | exact le_ 1 rfl rfl lrA | exact le_ 2 rfl rfl lrA | exact le_ 3 rfl rfl lrA | exact le_ 4 rfl rfl lrA | exact le_ 5 rfl rfl lrA | exact le_ 6 rfl rfl lrA | exact le_ 7 rfl rfl lrA | exact le_ 8 rfl rfl lrA)) | exact a7 rdA | exact oh (acc := []) rfl rfl rfl rfl (fun hg => rdA) | exact og2 (acc := []) rfl rfl rfl rfl (fun hg => Rd.step rdA) | exact og3 (acc := []) rfl rfl rfl rfl (fun hg => Rd.step rdA) | exact og4 (acc := []) rfl rfl rfl rfl (fun hg => Rd.step rdA) | (apply ob_lg; (first | exact .inl rfl | exact .inr ⟨rfl, rfl⟩); exact rfl; (first | exact g_t | exact g_f | exact g_ct | exact g_cf); exact fun hg => ex; (first | exact lg 0 rfl rfl l1A | exact lg 1 rfl rfl l1A | exact lg 2 rfl rfl l1A | exact lg 3 rfl rfl l1A | exact lg 4 rfl rfl l1A | exact lg 5 rfl rfl l1A | exact lg 6 rfl rfl l1A | exact lg 7 rfl rfl l1A | exact lg 8 rfl rfl l1A)) | (apply ob_lf; (first | exact .inl rfl | exact .inr ⟨rfl, rfl⟩); exact rfl; (first | exact g_t | exact g_f | exact g_ct | exact g_cf); exact fun hg => ex; (first | exact lf 0 rfl rfl (fun hg => lrA) | exact lf 1 rfl rfl (fun hg => lrA) | exact lf 2 rfl rfl (fun hg => lrA) | exact lf 3 rfl rfl (fun hg => lrA) | exact lf 4 rfl rfl (fun hg => lrA) | exact lf 5 rfl rfl (fun hg => lrA) | exact lf 6 rfl rfl (fun hg => lrA) | exact lf 7 rfl rfl (fun hg => lrA) | exact lf 8 rfl rfl (fun hg => lrA))) | (apply ob_st; exact ex; exact ex; (first | exact ls_ 0 rfl rfl rfZ rfZ rfZ rfZ | exact ls_ 1 rfl rfl rfZ rfZ rfZ rfZ | exact ls_ 2 rfl rfl rfZ rfZ rfZ rfZ | exact ls_ 3 rfl rfl rfZ rfZ rfZ rfZ | exact ls_ 4 rfl rfl rfZ rfZ rfZ rfZ | exact ls_ 5 rfl rfl rfZ rfZ rfZ rfZ | exact ls_ 6 rfl rfl rfZ rfZ rfZ rfZ | exact ls_ 7 rfl rfl rfZ rfZ rfZ rfZ | exact ls_ 8 rfl rfl rfZ rfZ rfZ rfZ | exact ls_ 9 rfl rfl rfZ rfZ rfZ rfZ | exact ls_ 10 rfl rfl rfZ rfZ rfZ rfZ | exact ls_ 11 rfl rfl rfZ rfZ rfZ rfZ))) : p := h
theorem oE (w : OB P w0 ol D H os ds i G G2 := by
  repeat (first | exact o_e | (apply o_s; exact obA) | (apply o_n; exact obA))) : OB P w0 ol D H os ds i G G2 := w
section
variable {G' : List (Nat × Value)} {os' : List Oper} {ds' : List DOp} {i' : Nat}
theorem owA {p : Prop} (h : p := by
  intro k
  repeat (first | (apply o_s; exact obA) | (apply o_n; exact obA))
  exact k) : p := h
theorem oK {f : FuncId} {vs : List Value} {p : Prop} (ct : ∀ w, Calls P f vs.toArray w (RetP w v p)) (w : OB P w0 ol D H (⟨some t, op, ty, pos, aft, none⟩ :: os') (⟨.det v, []⟩ :: ds') i' G' G2 → OB P w0 ol D H os ds i G G2 := by exact owA) (he : Ent P (eF G' (dA op)) op f vs := by exact enA)
    (k : OB P w0 ol D H os' ds' (i' + 1) ((t, v) :: G') G2) : OB P w0 ol D H os ds i G G2 := w (o_s (fun _ => fT (ef he (kk ct))) k)
theorem oG {f : FuncId} {vs : List Value} {p : Prop} {j : Nat} {c want b g : Bool} (ct : g = true → ∀ w, Calls P f vs.toArray w (RetP w v p)) (w : OB P w0 ol D H (⟨some t, op, ty, pos, aft, some (j, want)⟩ :: os') (⟨.det (gv g v), []⟩ :: ds') i' G' G2 → OB P w0 ol D H os ds i G G2 := by exact owA)
    (hl : look G' (((ol[j]?).bind (·.dst)).getD 0) = some (gv c (.bool b)) ∨ (look G' (((ol[j]?).bind (·.dst)).getD 0) = some (.bool b) ∧ c = true) := by first | exact .inl rfl | exact .inr ⟨rfl, rfl⟩) (hd : ((ol[j]?).bind (·.dst)).isSome = true := by rfl) (hg : (c && (b == want)) = g := by first | exact g_t | exact g_f | exact g_ct | exact g_cf)
    (he : g = true → Ent P (eF G' (dA op)) op f vs := by intro hg; exact enA)
    (k : OB P w0 ol D H os' ds' (i' + 1) ((t, gv g v) :: G') G2) : OB P w0 ol D H os ds i G G2 := w (o_s (fun _ => by
      rcases hl with hl | ⟨hl, rfl⟩
      · exact gZ [] rfl rfl hl hd hg (fun e => ef (he e) (kk (ct e)))
      · exact gZ (c := true) [] rfl rfl hl hd hg (fun e => ef (he e) (kk (ct e)))) k)
theorem oY (w : OB P w0 ol D H (⟨none, op, ty, pos, aft, g⟩ :: os') (⟨.det v, acc⟩ :: ds') i' G' G2 → OB P w0 ol D H os ds i G G2 := by exact owA) (h : ∀ ξ, ObS P w0 ol H (fun _ => G') ξ i' ⟨none, op, ty, pos, aft, g⟩ ⟨.det v, acc⟩)
    (k : OB P w0 ol D H os' ds' (i' + 1) G' G2) : OB P w0 ol D H os ds i G G2 := w (o_n h k)
theorem oX (w : OB P w0 ol D H (⟨some t, op, ty, pos, aft, g⟩ :: os') (⟨.det v, acc⟩ :: ds') i' G' G2 → OB P w0 ol D H os ds i G G2 := by exact owA) (h : ∀ ξ, ObS P w0 ol H (fun _ => G') ξ i' ⟨some t, op, ty, pos, aft, g⟩ ⟨.det v, acc⟩)
    (k : OB P w0 ol D H os' ds' (i' + 1) ((t, v) :: G') G2) : OB P w0 ol D H os ds i G G2 := w (o_s h k)
end
end
section
variable {P : Program} {w0 : World} {N : Nat} {F F' : List (Nat × Value)} {L L' : List Asn} {ol : List Oper} {D : List DOp} {Q : Exit → Act → World → Prop} {R : Act → World → Prop} {id : Nat} {G2 : List (Nat × Value)}
theorem hLA {p : Prop} (h : p := by
  intro ξ
  simp only [List.map_cons, List.map_nil, Hist.at, List.foldl_cons, List.foldl_nil, cond_true, DF.con]
  try rfl) : p := h
theorem dr1 {H : List Hist} {L2 : List Asn} (w : (∀ a w, St w0 N F' L' a w → (Code.region id ol.toArray true).wp P Q a w) → ∀ a w, St w0 N F L a w → R a w := by exact wu) (hL : H.map (·.init) = L' := by rfl) (hob : OB P w0 ol D H ol D 0 F' G2) (hm : P.follows .mixedOrders = true := by exact mixed)
    (hc : (chk ol D H && D.all (fun d => lB d.acc) && ou ol N) = true := by kernel_rfl) (hL2 : ∀ ξ, (H.map fun h => h.at (fun _ => true) ξ) = L2 := by exact hLA) (k : ∀ a w, St w0 N G2 L2 a w → Q .normal a w) : ∀ a w, St w0 N F L a w → R a w := w fun a w h =>
  d4 hm D H h hL hc hob.1 fun ξ a w _ h => k a w (by rw [hob.2 ξ, hL2 ξ] at h; exact h)
theorem dr0 (w : (∀ a w, St w0 N F' L' a w → (Code.region id ol.toArray true).wp P Q a w) → ∀ a w, St w0 N F L a w → R a w := by exact wu) (hob : OB P w0 ol D (L'.map fun r => ⟨r, []⟩) ol D 0 F' G2) (hm : P.follows .mixedOrders = true := by exact mixed)
    (hc : (chk ol D (L'.map fun r => ⟨r, []⟩) && D.all (fun d => lB d.acc) && ou ol N) = true := by kernel_rfl) (k : ∀ a w, St w0 N G2 L' a w → Q .normal a w) : ∀ a w, St w0 N F L a w → R a w := w fun a w h =>
  d4 hm D (L'.map fun r => ⟨r, []⟩) h (by rw [List.map_map]; exact List.map_id _) hc hob.1 fun ξ a w _ h => k a w (by
    rw [hob.2 ξ, List.map_map] at h
    have : (List.map ((fun h => Hist.at h (fun _ => true) ξ) ∘ fun r => ⟨r, []⟩) L') = L' := List.map_id _
    rw [this] at h
    exact h)
end
attribute [irreducible] OB
end Go.Sx
namespace Go.Sx
open Go Go.RowKit Go.Proofs
set_option maxRecDepth 100000
instance yAxS_20 : Sz Tryz.prog 3 1 := ⟨Tryz.sizeOf3⟩
instance yAxS_21 : Sz Tryz.prog 4 1 := ⟨Tryz.sizeOf4⟩
instance yAxS_22 : Sz Tryz.prog 5 1 := ⟨Tryz.sizeOf5⟩
instance yAxS_23 : Sz Tryz.prog 9 1 := ⟨Tryz.sizeOf9⟩
instance yAxS_24 : Sz Tryz.prog 25 2 := ⟨Tryz.sizeOf25⟩
instance yAxS_25 : Sz Tryz.prog 27 4 := ⟨Tryz.sizeOf27⟩
instance yAxS_26 : Sz Tryz.prog 50 1 := ⟨Tryz.sizeOf50⟩
instance yAxS_27 : Sz Tryz.prog 53 12 := ⟨Tryz.sizeOf53⟩
instance yAxS_28 : Sz Tryz.prog 57 1 := ⟨Tryz.sizeOf57⟩
instance yAxS_29 : Sz Tryz.prog 71 9 := ⟨Tryz.sizeOf71⟩
instance yAxS_30 : Sz Tryz.prog 79 16 := ⟨Tryz.sizeOf79⟩
instance yAxS_31 : Sz Tryz.prog 81 1 := ⟨Tryz.sizeOf81⟩
instance yAxS_32 : Sz Tryz.prog 86 20 := ⟨Tryz.sizeOf86⟩
instance yAxS_33 : Sz Tryz.prog 103 1 := ⟨Tryz.sizeOf103⟩
instance yAxS_34 : Sz Tryz.prog 126 32 := ⟨Tryz.sizeOf126⟩
instance yAxS_35 : Sz Tryz.prog 162 1 := ⟨Tryz.sizeOf162⟩
instance yAxS_36 : Sz Tryz.prog 166 1 := ⟨Tryz.sizeOf166⟩
instance yAxS_37 : Sz Tryz.prog 167 3 := ⟨Tryz.sizeOf167⟩
instance yAxS_38 : Sz Tryz.prog 169 7 := ⟨Tryz.sizeOf169⟩
instance yAxS_39 : Sz Tryz.prog 174 1 := ⟨Tryz.sizeOf174⟩
instance yAxS_40 : Sz Tryz.prog 176 21 := ⟨Tryz.sizeOf176⟩
instance yAxS_41 : Sz Tryz.prog 182 44 := ⟨Tryz.sizeOf182⟩
instance yAxS_42 : Sz Tryz.prog 199 36 := ⟨Tryz.sizeOf199⟩
instance yAxS_43 : Sz Tryz.prog 206 10 := ⟨Tryz.sizeOf206⟩
instance yAxS_44 : Sz Tryz.prog 264 32 := ⟨Tryz.sizeOf264⟩
instance yAxS_45 : Sz Tryz.prog 319 2 := ⟨Tryz.sizeOf319⟩
instance yAxS_46 : Sz Tryz.prog 321 12 := ⟨Tryz.sizeOf321⟩
instance yAxS_47 : Sz Tryz.prog 341 1 := ⟨Tryz.sizeOf341⟩
instance yAxS_48 : Ag Tryz.prog 3 false := ⟨Tryz.isAgg3⟩
instance yAxS_49 : Ag Tryz.prog 4 false := ⟨Tryz.isAgg4⟩
instance yAxS_50 : Ag Tryz.prog 5 false := ⟨Tryz.isAgg5⟩
instance yAxS_51 : Ag Tryz.prog 9 false := ⟨Tryz.isAgg9⟩
instance yAxS_52 : Ag Tryz.prog 25 true := ⟨Tryz.isAgg25⟩
instance yAxS_53 : Ag Tryz.prog 27 true := ⟨Tryz.isAgg27⟩
instance yAxS_54 : Ag Tryz.prog 50 false := ⟨Tryz.isAgg50⟩
instance yAxS_55 : Ag Tryz.prog 53 true := ⟨Tryz.isAgg53⟩
instance yAxS_56 : Ag Tryz.prog 57 false := ⟨Tryz.isAgg57⟩
instance yAxS_57 : Ag Tryz.prog 71 true := ⟨Tryz.isAgg71⟩
instance yAxS_58 : Ag Tryz.prog 79 true := ⟨Tryz.isAgg79⟩
instance yAxS_59 : Ag Tryz.prog 81 false := ⟨Tryz.isAgg81⟩
instance yAxS_60 : Ag Tryz.prog 86 true := ⟨Tryz.isAgg86⟩
instance yAxS_61 : Ag Tryz.prog 103 false := ⟨Tryz.isAgg103⟩
instance yAxS_62 : Ag Tryz.prog 126 true := ⟨Tryz.isAgg126⟩
instance yAxS_63 : Ag Tryz.prog 162 false := ⟨Tryz.isAgg162⟩
instance yAxS_64 : Ag Tryz.prog 166 false := ⟨Tryz.isAgg166⟩
instance yAxS_65 : Ag Tryz.prog 167 true := ⟨Tryz.isAgg167⟩
instance yAxS_66 : Ag Tryz.prog 169 true := ⟨Tryz.isAgg169⟩
instance yAxS_67 : Ag Tryz.prog 174 false := ⟨Tryz.isAgg174⟩
instance yAxS_68 : Ag Tryz.prog 176 true := ⟨Tryz.isAgg176⟩
instance yAxS_69 : Ag Tryz.prog 182 true := ⟨Tryz.isAgg182⟩
instance yAxS_70 : Ag Tryz.prog 199 true := ⟨Tryz.isAgg199⟩
instance yAxS_71 : Ag Tryz.prog 206 true := ⟨Tryz.isAgg206⟩
instance yAxS_72 : Ag Tryz.prog 264 true := ⟨Tryz.isAgg264⟩
instance yAxS_73 : Ag Tryz.prog 319 true := ⟨Tryz.isAgg319⟩
instance yAxS_74 : Ag Tryz.prog 321 true := ⟨Tryz.isAgg321⟩
instance yAxS_75 : Ag Tryz.prog 341 false := ⟨Tryz.isAgg341⟩
instance yAxS_76 : Fl Tryz.prog 25 0 4 0 := ⟨⟨_, _, uu25, rfl, rfl, rfl⟩⟩
instance yAxS_77 : Fl Tryz.prog 25 1 9 1 := ⟨⟨_, _, uu25, rfl, rfl, rfl⟩⟩
instance yAxS_78 : Fl Tryz.prog 27 0 25 0 := ⟨⟨_, _, uu27, rfl, rfl, rfl⟩⟩
instance yAxS_79 : Fl Tryz.prog 27 1 25 2 := ⟨⟨_, _, uu27, rfl, rfl, rfl⟩⟩
instance yAxS_80 : Un Tryz.prog 49 (.slice 169) := ⟨Tryz.runUnderlying49⟩
instance yAxS_81 : Un Tryz.prog 50 (.slice 126) := ⟨Tryz.runUnderlying50⟩
instance yAxS_82 : Fl Tryz.prog 53 0 27 0 := ⟨⟨_, _, uu53, rfl, rfl, rfl⟩⟩
instance yAxS_83 : Fl Tryz.prog 53 1 27 4 := ⟨⟨_, _, uu53, rfl, rfl, rfl⟩⟩
instance yAxS_84 : Fl Tryz.prog 53 2 27 8 := ⟨⟨_, _, uu53, rfl, rfl, rfl⟩⟩
instance yAxS_85 : Un Tryz.prog 57 (.slice 176) := ⟨Tryz.runUnderlying57⟩
instance yAxS_86 : Un Tryz.prog 66 (.slice 71) := ⟨Tryz.runUnderlying66⟩
instance yAxS_87 : Fl Tryz.prog 71 0 27 0 := ⟨⟨_, _, uu71, rfl, rfl, rfl⟩⟩
instance yAxS_88 : Fl Tryz.prog 71 1 27 4 := ⟨⟨_, _, uu71, rfl, rfl, rfl⟩⟩
instance yAxS_89 : Fl Tryz.prog 71 2 4 8 := ⟨⟨_, _, uu71, rfl, rfl, rfl⟩⟩
instance yAxS_90 : Fl Tryz.prog 79 0 27 0 := ⟨⟨_, _, uu79, rfl, rfl, rfl⟩⟩
instance yAxS_91 : Fl Tryz.prog 79 1 27 4 := ⟨⟨_, _, uu79, rfl, rfl, rfl⟩⟩
instance yAxS_92 : Fl Tryz.prog 79 2 27 8 := ⟨⟨_, _, uu79, rfl, rfl, rfl⟩⟩
instance yAxS_93 : Fl Tryz.prog 79 3 27 12 := ⟨⟨_, _, uu79, rfl, rfl, rfl⟩⟩
instance yAxS_94 : Un Tryz.prog 81 (.slice 199) := ⟨Tryz.runUnderlying81⟩
instance yAxS_95 : Fl Tryz.prog 86 0 71 0 := ⟨⟨_, _, uu86, rfl, rfl, rfl⟩⟩
instance yAxS_96 : Fl Tryz.prog 86 1 71 9 := ⟨⟨_, _, uu86, rfl, rfl, rfl⟩⟩
instance yAxS_97 : Fl Tryz.prog 86 2 4 18 := ⟨⟨_, _, uu86, rfl, rfl, rfl⟩⟩
instance yAxS_98 : Fl Tryz.prog 86 3 4 19 := ⟨⟨_, _, uu86, rfl, rfl, rfl⟩⟩
instance yAxS_99 : Un Tryz.prog 103 (.slice 86) := ⟨Tryz.runUnderlying103⟩
instance yAxS_100 : Un Tryz.prog 110 (.array 3 27) := ⟨Tryz.runUnderlying110⟩
instance yAxS_101 : Fl Tryz.prog 126 0 86 0 := ⟨⟨_, _, uu126, rfl, rfl, rfl⟩⟩
instance yAxS_102 : Fl Tryz.prog 126 1 53 20 := ⟨⟨_, _, uu126, rfl, rfl, rfl⟩⟩
instance yAxS_103 : Un Tryz.prog 164 (.slice 264) := ⟨Tryz.runUnderlying164⟩
instance yAxS_104 : Un Tryz.prog 167 (.array 3 166) := ⟨Tryz.runUnderlying167⟩
instance yAxS_105 : Fl Tryz.prog 169 0 5 0 := ⟨⟨_, _, uu169, rfl, rfl, rfl⟩⟩
instance yAxS_106 : Fl Tryz.prog 169 1 5 1 := ⟨⟨_, _, uu169, rfl, rfl, rfl⟩⟩
instance yAxS_107 : Fl Tryz.prog 169 2 5 2 := ⟨⟨_, _, uu169, rfl, rfl, rfl⟩⟩
instance yAxS_108 : Fl Tryz.prog 169 3 4 3 := ⟨⟨_, _, uu169, rfl, rfl, rfl⟩⟩
instance yAxS_109 : Fl Tryz.prog 169 4 167 4 := ⟨⟨_, _, uu169, rfl, rfl, rfl⟩⟩
instance yAxS_110 : Fl Tryz.prog 176 0 86 0 := ⟨⟨_, _, uu176, rfl, rfl, rfl⟩⟩
instance yAxS_111 : Fl Tryz.prog 176 1 3 20 := ⟨⟨_, _, uu176, rfl, rfl, rfl⟩⟩
instance yAxS_112 : Un Tryz.prog 179 (.slice 182) := ⟨Tryz.runUnderlying179⟩
instance yAxS_113 : Fl Tryz.prog 182 0 86 0 := ⟨⟨_, _, uu182, rfl, rfl, rfl⟩⟩
instance yAxS_114 : Fl Tryz.prog 182 1 53 20 := ⟨⟨_, _, uu182, rfl, rfl, rfl⟩⟩
instance yAxS_115 : Fl Tryz.prog 182 2 53 32 := ⟨⟨_, _, uu182, rfl, rfl, rfl⟩⟩
instance yAxS_116 : Fl Tryz.prog 199 0 86 0 := ⟨⟨_, _, uu199, rfl, rfl, rfl⟩⟩
instance yAxS_117 : Fl Tryz.prog 199 1 79 20 := ⟨⟨_, _, uu199, rfl, rfl, rfl⟩⟩
instance yAxS_118 : Fl Tryz.prog 206 0 71 0 := ⟨⟨_, _, uu206, rfl, rfl, rfl⟩⟩
instance yAxS_119 : Fl Tryz.prog 206 1 4 9 := ⟨⟨_, _, uu206, rfl, rfl, rfl⟩⟩
instance yAxS_120 : Un Tryz.prog 208 (.array 4 27) := ⟨Tryz.runUnderlying208⟩
instance yAxS_121 : Fl Tryz.prog 264 0 71 0 := ⟨⟨_, _, uu264, rfl, rfl, rfl⟩⟩
instance yAxS_122 : Fl Tryz.prog 264 1 71 9 := ⟨⟨_, _, uu264, rfl, rfl, rfl⟩⟩
instance yAxS_123 : Fl Tryz.prog 264 2 4 18 := ⟨⟨_, _, uu264, rfl, rfl, rfl⟩⟩
instance yAxS_124 : Fl Tryz.prog 264 3 4 19 := ⟨⟨_, _, uu264, rfl, rfl, rfl⟩⟩
instance yAxS_125 : Fl Tryz.prog 264 4 53 20 := ⟨⟨_, _, uu264, rfl, rfl, rfl⟩⟩
instance yAxS_126 : Un Tryz.prog 317 (.slice 321) := ⟨Tryz.runUnderlying317⟩
instance yAxS_127 : Un Tryz.prog 318 (.slice 103) := ⟨Tryz.runUnderlying318⟩
instance yAxS_128 : Un Tryz.prog 319 (.array 2 3) := ⟨Tryz.runUnderlying319⟩
instance yAxS_129 : Fl Tryz.prog 321 0 206 0 := ⟨⟨_, _, uu321, rfl, rfl, rfl⟩⟩
instance yAxS_130 : Fl Tryz.prog 321 1 319 10 := ⟨⟨_, _, uu321, rfl, rfl, rfl⟩⟩
instance yAxS_131 : Un Tryz.prog 334 (.array 8 5) := ⟨Tryz.runUnderlying334⟩
instance yAxS_132 : Un Tryz.prog 335 (.slice 5) := ⟨Tryz.runUnderlying335⟩
instance yAxS_133 : Un Tryz.prog 339 (.slice 341) := ⟨Tryz.runUnderlying339⟩
instance yAxS_134 : Un Tryz.prog 358 (.slice 3) := ⟨Tryz.runUnderlying358⟩
instance yAxS_135 : Pp Tryz.prog 216 := ⟨Tryz.underlying216⟩
instance yAxS_136 : Pp Tryz.prog 266 := ⟨Tryz.underlying266⟩
instance yAxS_137 : Pp Tryz.prog 282 := ⟨Tryz.underlying282⟩
instance yAxS_138 : Zc Tryz.prog 25 (cI (⟨false, 0⟩ : GI)) := ⟨⟨_, Tryz.zeroValue25, rfl⟩⟩
instance yAxS_139 : Zc Tryz.prog 27 (cQ oQ) := ⟨⟨_, Tryz.zeroValue27, rfl⟩⟩
instance yAxS_140 : Zc Tryz.prog 50 [.slice none 0 0] := ⟨⟨_, Tryz.zeroValue50, rfl⟩⟩
instance yAxS_141 : Zc Tryz.prog 53 (cD oD) := ⟨⟨_, Tryz.zeroValue53, rfl⟩⟩
instance yAxS_142 : Zc Tryz.prog 57 [.slice none 0 0] := ⟨⟨_, Tryz.zeroValue57, rfl⟩⟩
instance yAxS_143 : Zc Tryz.prog 71 (cR (⟨oQ, oQ, false⟩ : GR)) := ⟨⟨_, Tryz.zeroValue71, rfl⟩⟩
instance yAxS_144 : Zc Tryz.prog 79 (cN (⟨oQ, oQ, oQ, oQ⟩ : Ln)) := ⟨⟨_, Tryz.zeroValue79, rfl⟩⟩
instance yAxS_145 : Zc Tryz.prog 81 [.slice none 0 0] := ⟨⟨_, Tryz.zeroValue81, rfl⟩⟩
instance yAxS_146 : Zc Tryz.prog 86 (cV (⟨(⟨oQ, oQ, false⟩ : GR), (⟨oQ, oQ, false⟩ : GR), false, false⟩ : Iv)) := ⟨⟨_, Tryz.zeroValue86, rfl⟩⟩
instance yAxS_147 : Zc Tryz.prog 126 (cUD (⟨(⟨(⟨oQ, oQ, false⟩ : GR), (⟨oQ, oQ, false⟩ : GR), false, false⟩ : Iv), oD⟩ : U Qd)) := ⟨⟨_, Tryz.zeroValue126, rfl⟩⟩
instance yAxS_148 : Zc Tryz.prog 169 (cS (⟨0, 0, 0, false, 0, 0, 0⟩ : Stp)) := ⟨⟨_, Tryz.zeroValue169, rfl⟩⟩
instance yAxS_149 : Zc Tryz.prog 176 (cUI (⟨(⟨(⟨oQ, oQ, false⟩ : GR), (⟨oQ, oQ, false⟩ : GR), false, false⟩ : Iv), 0⟩ : U Int)) := ⟨⟨_, Tryz.zeroValue176, rfl⟩⟩
instance yAxS_150 : Zc Tryz.prog 199 (cUN (⟨(⟨(⟨oQ, oQ, false⟩ : GR), (⟨oQ, oQ, false⟩ : GR), false, false⟩ : Iv), (⟨oQ, oQ, oQ, oQ⟩ : Ln)⟩ : U Ln)) := ⟨⟨_, Tryz.zeroValue199, rfl⟩⟩
instance yAxS_151 : Zc Tryz.prog 206 (cW (⟨(⟨oQ, oQ, false⟩ : GR), false⟩ : Bd)) := ⟨⟨_, Tryz.zeroValue206, rfl⟩⟩
instance yAxS_152 : Zc Tryz.prog 264 (cAD (⟨(⟨oQ, oQ, false⟩ : GR), (⟨oQ, oQ, false⟩ : GR), false, false, oD⟩ : At Qd)) := ⟨⟨_, Tryz.zeroValue264, rfl⟩⟩
instance yAxS_153 : Zc Tryz.prog 321 (cE (⟨(⟨(⟨oQ, oQ, false⟩ : GR), false⟩ : Bd), 0, 0⟩ : Ev)) := ⟨⟨_, Tryz.zeroValue321, rfl⟩⟩
instance yAxS_154 : Zc Tryz.prog 334 (flat (List.replicate 8 (0 : UInt8))) := ⟨⟨_, Tryz.zeroValue334, rfl⟩⟩
instance yAxS_155 : Cf Tryz.prog 20 := ⟨Tryz.call20⟩
instance yAxS_156 : Cf Tryz.prog 21 := ⟨Tryz.call21⟩
instance yAxS_157 : Cf Tryz.prog 22 := ⟨Tryz.call22⟩
instance yAxS_158 : Cf Tryz.prog 25 := ⟨Tryz.call25⟩
instance yAxS_159 : Cf Tryz.prog 26 := ⟨Tryz.call26⟩
instance yAxS_160 : Cf Tryz.prog 27 := ⟨Tryz.call27⟩
instance yAxS_161 : Cf Tryz.prog 28 := ⟨Tryz.call28⟩
instance yAxS_162 : Cf Tryz.prog 29 := ⟨Tryz.call29⟩
instance yAxS_163 : Cf Tryz.prog 30 := ⟨Tryz.call30⟩
instance yAxS_164 : Cf Tryz.prog 31 := ⟨Tryz.call31⟩
instance yAxS_165 : Cf Tryz.prog 32 := ⟨Tryz.call32⟩
instance yAxS_166 : Cf Tryz.prog 33 := ⟨Tryz.call33⟩
instance yAxS_167 : Cf Tryz.prog 34 := ⟨Tryz.call34⟩
instance yAxS_168 : Cf Tryz.prog 35 := ⟨Tryz.call35⟩
instance yAxS_169 : Cf Tryz.prog 36 := ⟨Tryz.call36⟩
instance yAxS_170 : Cf Tryz.prog 37 := ⟨Tryz.call37⟩
instance yAxS_171 : Cf Tryz.prog 38 := ⟨Tryz.call38⟩
instance yAxS_172 : Cf Tryz.prog 39 := ⟨Tryz.call39⟩
instance yAxS_173 : Cf Tryz.prog 44 := ⟨Tryz.call44⟩
instance yAxS_174 : Cf Tryz.prog 55 := ⟨Tryz.call55⟩
instance yAxS_175 : Cf Tryz.prog 56 := ⟨Tryz.call56⟩
instance yAxS_176 : Cf Tryz.prog 57 := ⟨Tryz.call57⟩
instance yAxS_177 : Cf Tryz.prog 58 := ⟨Tryz.call58⟩
instance yAxS_178 : Cf Tryz.prog 59 := ⟨Tryz.call59⟩
instance yAxS_179 : Cf Tryz.prog 60 := ⟨Tryz.call60⟩
instance yAxS_180 : Cf Tryz.prog 61 := ⟨Tryz.call61⟩
instance yAxS_181 : Cf Tryz.prog 62 := ⟨Tryz.call62⟩
instance yAxS_182 : Cf Tryz.prog 63 := ⟨Tryz.call63⟩
instance yAxS_183 : Cf Tryz.prog 77 := ⟨Tryz.call77⟩
instance yAxS_184 : Cf Tryz.prog 85 := ⟨Tryz.call85⟩
instance yAxS_185 : Cf Tryz.prog 86 := ⟨Tryz.call86⟩
instance yAxS_186 : Cf Tryz.prog 87 := ⟨Tryz.call87⟩
instance yAxS_187 : Cf Tryz.prog 88 := ⟨Tryz.call88⟩
instance yAxS_188 : Cf Tryz.prog 92 := ⟨Tryz.call92⟩
instance yAxS_189 : Cf Tryz.prog 93 := ⟨Tryz.call93⟩
instance yAxS_190 : Cf Tryz.prog 94 := ⟨Tryz.call94⟩
instance yAxS_191 : Cf Tryz.prog 95 := ⟨Tryz.call95⟩
instance yAxS_192 : Cf Tryz.prog 96 := ⟨Tryz.call96⟩
instance yAxS_193 : Cf Tryz.prog 97 := ⟨Tryz.call97⟩
instance yAxS_194 : Cf Tryz.prog 98 := ⟨Tryz.call98⟩
instance yAxS_195 : Cf Tryz.prog 101 := ⟨Tryz.call101⟩
instance yAxS_196 : Cf Tryz.prog 107 := ⟨Tryz.call107⟩
instance yAxS_197 : Cf Tryz.prog 108 := ⟨Tryz.call108⟩
instance yAxS_198 : Cf Tryz.prog 109 := ⟨Tryz.call109⟩
instance yAxS_199 : Cf Tryz.prog 110 := ⟨Tryz.call110⟩
instance yAxS_200 : Cf Tryz.prog 111 := ⟨Tryz.call111⟩
instance yAxS_201 : Cf Tryz.prog 112 := ⟨Tryz.call112⟩
instance yAxS_202 : Cf Tryz.prog 113 := ⟨Tryz.call113⟩
instance yAxS_203 : Cf Tryz.prog 114 := ⟨Tryz.call114⟩
instance yAxS_204 : Cf Tryz.prog 115 := ⟨Tryz.call115⟩
instance yAxS_205 : Cf Tryz.prog 116 := ⟨Tryz.call116⟩
instance yAxS_206 : Cf Tryz.prog 117 := ⟨Tryz.call117⟩
instance yAxS_207 : Cf Tryz.prog 118 := ⟨Tryz.call118⟩
instance yAxS_208 : Cf Tryz.prog 119 := ⟨Tryz.call119⟩
instance yAxS_209 : Cf Tryz.prog 120 := ⟨Tryz.call120⟩
instance yAxS_210 : Cf Tryz.prog 121 := ⟨Tryz.call121⟩
instance yAxS_211 : Cf Tryz.prog 122 := ⟨Tryz.call122⟩
instance yAxS_212 : Cf Tryz.prog 123 := ⟨Tryz.call123⟩
instance yAxS_213 : Cf Tryz.prog 124 := ⟨Tryz.call124⟩
instance yAxS_214 : Cf Tryz.prog 125 := ⟨Tryz.call125⟩
instance yAxS_215 : Cf Tryz.prog 126 := ⟨Tryz.call126⟩
instance yAxS_216 : Cf Tryz.prog 127 := ⟨Tryz.call127⟩
instance yAxS_217 : Cf Tryz.prog 128 := ⟨Tryz.call128⟩
instance yAxS_218 : Cf Tryz.prog 129 := ⟨Tryz.call129⟩
instance yAxS_219 : Cf Tryz.prog 130 := ⟨Tryz.call130⟩
instance yAxS_220 : Cf Tryz.prog 131 := ⟨Tryz.call131⟩
instance yAxS_221 : Cf Tryz.prog 134 := ⟨Tryz.call134⟩
instance yAxS_222 : Cf Tryz.prog 135 := ⟨Tryz.call135⟩
instance yAxS_223 : Cf Tryz.prog 136 := ⟨Tryz.call136⟩
instance yAxS_224 : Cf Tryz.prog 137 := ⟨Tryz.call137⟩
instance yAxS_225 : Cf Tryz.prog 148 := ⟨Tryz.call148⟩
instance yAxS_226 : Cf Tryz.prog 149 := ⟨Tryz.call149⟩
instance yAxS_227 : Cf Tryz.prog 150 := ⟨Tryz.call150⟩
instance yAxS_228 : Cf Tryz.prog 151 := ⟨Tryz.call151⟩
instance yAxS_229 : Cf Tryz.prog 152 := ⟨Tryz.call152⟩
instance yAxS_230 : Cf Tryz.prog 153 := ⟨Tryz.call153⟩
instance yAxS_231 : Cf Tryz.prog 154 := ⟨Tryz.call154⟩
instance yAxS_232 : Cf Tryz.prog 155 := ⟨Tryz.call155⟩
instance yAxS_233 : Cf Tryz.prog 156 := ⟨Tryz.call156⟩
instance yAxS_234 : Cf Tryz.prog 157 := ⟨Tryz.call157⟩
instance yAxS_235 : Cf Tryz.prog 158 := ⟨Tryz.call158⟩
instance yAxS_236 : Cf Tryz.prog 159 := ⟨Tryz.call159⟩
instance yAxS_237 : Cf Tryz.prog 160 := ⟨Tryz.call160⟩
instance yAxS_238 : Cf Tryz.prog 161 := ⟨Tryz.call161⟩
instance yAxS_239 : Cf Tryz.prog 178 := ⟨Tryz.call178⟩
instance yAxS_240 : Cf Tryz.prog 179 := ⟨Tryz.call179⟩
instance yAxS_241 : Cf Tryz.prog 180 := ⟨Tryz.call180⟩
instance yAxS_242 : Cf Tryz.prog 181 := ⟨Tryz.call181⟩
instance yAxS_243 : Cf Tryz.prog 187 := ⟨Tryz.call187⟩
instance yAxS_244 : Cf Tryz.prog 190 := ⟨Tryz.call190⟩
instance yAxS_245 : Cf Tryz.prog 191 := ⟨Tryz.call191⟩
instance yAxS_246 : Cf Tryz.prog 192 := ⟨Tryz.call192⟩
instance yAxS_247 : Cf Tryz.prog 193 := ⟨Tryz.call193⟩
instance yAxS_248 : Cf Tryz.prog 194 := ⟨Tryz.call194⟩
instance yAxS_249 : Cf Tryz.prog 195 := ⟨Tryz.call195⟩
instance yAxS_250 : Cf Tryz.prog 196 := ⟨Tryz.call196⟩
instance yAxS_251 : Cf Tryz.prog 201 := ⟨Tryz.call201⟩
instance yAxS_252 : Cf Tryz.prog 202 := ⟨Tryz.call202⟩
instance yAxS_253 : Cf Tryz.prog 203 := ⟨Tryz.call203⟩
instance yAxS_254 : Cf Tryz.prog 204 := ⟨Tryz.call204⟩
instance yAxS_255 : Cf Tryz.prog 205 := ⟨Tryz.call205⟩
instance yAxS_256 : Cf Tryz.prog 206 := ⟨Tryz.call206⟩
instance yAxS_257 : Cf Tryz.prog 207 := ⟨Tryz.call207⟩
instance yAxS_258 : Cf Tryz.prog 208 := ⟨Tryz.call208⟩
instance yAxS_259 : Cf Tryz.prog 209 := ⟨Tryz.call209⟩
instance yAxS_260 : Cf Tryz.prog 210 := ⟨Tryz.call210⟩
instance yAxS_261 : Cf Tryz.prog 211 := ⟨Tryz.call211⟩
instance yAxS_262 : Cf Tryz.prog 212 := ⟨Tryz.call212⟩
instance yAxS_263 : Cf Tryz.prog 213 := ⟨Tryz.call213⟩
instance yAxS_264 : Cf Tryz.prog 214 := ⟨Tryz.call214⟩
instance yAxS_265 : Cf Tryz.prog 215 := ⟨Tryz.call215⟩
instance yAxS_266 : Cf Tryz.prog 216 := ⟨Tryz.call216⟩
instance yAxS_267 : Cf Tryz.prog 219 := ⟨Tryz.call219⟩
instance yAxS_268 : Cf Tryz.prog 223 := ⟨Tryz.call223⟩
instance yAxS_269 : Cf Tryz.prog 224 := ⟨Tryz.call224⟩
instance yAxS_270 : Cf Tryz.prog 225 := ⟨Tryz.call225⟩
instance yAxS_271 : Cf Tryz.prog 226 := ⟨Tryz.call226⟩
instance yAxS_272 : Cf Tryz.prog 227 := ⟨Tryz.call227⟩
instance yAxS_273 : Cf Tryz.prog 228 := ⟨Tryz.call228⟩
instance yAxS_274 : Cf Tryz.prog 229 := ⟨Tryz.call229⟩
instance yAxS_275 : Cf Tryz.prog 230 := ⟨Tryz.call230⟩
instance yAxS_276 : Cf Tryz.prog 231 := ⟨Tryz.call231⟩
instance yAxS_277 : Cf Tryz.prog 232 := ⟨Tryz.call232⟩
instance yAxS_278 : Cf Tryz.prog 243 := ⟨Tryz.call243⟩
instance yAxS_279 : Cf Tryz.prog 244 := ⟨Tryz.call244⟩
instance yAxS_280 : Cf Tryz.prog 245 := ⟨Tryz.call245⟩
instance yAxS_281 : Cf Tryz.prog 246 := ⟨Tryz.call246⟩
instance yAxS_282 : Cf Tryz.prog 247 := ⟨Tryz.call247⟩
instance yAxS_283 : Cf Tryz.prog 249 := ⟨Tryz.call249⟩
instance yAxS_284 : Cf Tryz.prog 250 := ⟨Tryz.call250⟩
instance yAxS_285 : Cf Tryz.prog 251 := ⟨Tryz.call251⟩
instance yAxS_286 : Cf Tryz.prog 252 := ⟨Tryz.call252⟩
instance yAxS_287 : Cf Tryz.prog 253 := ⟨Tryz.call253⟩
instance yAxS_288 : Cf Tryz.prog 255 := ⟨Tryz.call255⟩
instance yAxS_289 : Cf Tryz.prog 257 := ⟨Tryz.call257⟩
instance yAxS_290 : Cf Tryz.prog 258 := ⟨Tryz.call258⟩
instance yAxS_291 : Cf Tryz.prog 259 := ⟨Tryz.call259⟩
instance yAxS_292 : Cf Tryz.prog 260 := ⟨Tryz.call260⟩
instance yAxS_293 : Cf Tryz.prog 261 := ⟨Tryz.call261⟩
instance yAxS_294 : Cf Tryz.prog 262 := ⟨Tryz.call262⟩
instance yAxS_295 : Cf Tryz.prog 263 := ⟨Tryz.call263⟩
instance yAxS_296 : Cf Tryz.prog 264 := ⟨Tryz.call264⟩
instance yAxS_297 : Cf Tryz.prog 265 := ⟨Tryz.call265⟩
instance yAxS_298 : Cf Tryz.prog 266 := ⟨Tryz.call266⟩
instance yAxS_299 : Cf Tryz.prog 267 := ⟨Tryz.call267⟩
instance yAxS_300 : Cf Tryz.prog 268 := ⟨Tryz.call268⟩
instance yAxS_301 : Cf Tryz.prog 271 := ⟨Tryz.call271⟩
instance yAxS_302 : Cf Tryz.prog 272 := ⟨Tryz.call272⟩
instance yAxS_303 : Cf Tryz.prog 273 := ⟨Tryz.call273⟩
instance yAxS_304 : Cf Tryz.prog 274 := ⟨Tryz.call274⟩
instance yAxS_305 : Cf Tryz.prog 275 := ⟨Tryz.call275⟩
instance yAxS_306 : Cf Tryz.prog 276 := ⟨Tryz.call276⟩
instance yAxS_307 : Cf Tryz.prog 278 := ⟨Tryz.call278⟩
instance yAxS_308 : Cf Tryz.prog 279 := ⟨Tryz.call279⟩
instance yAxS_309 : Cf Tryz.prog 280 := ⟨Tryz.call280⟩
instance yAxS_310 : Cf Tryz.prog 281 := ⟨Tryz.call281⟩
instance yAxS_311 : Cf Tryz.prog 282 := ⟨Tryz.call282⟩
instance yAxS_312 : Cf Tryz.prog 283 := ⟨Tryz.call283⟩
instance yAxS_313 : Cf Tryz.prog 284 := ⟨Tryz.call284⟩
instance yAxS_314 : Cf Tryz.prog 285 := ⟨Tryz.call285⟩
instance yAxS_315 : Cf Tryz.prog 286 := ⟨Tryz.call286⟩
instance yAxS_316 : Cf Tryz.prog 287 := ⟨Tryz.call287⟩
instance yAxS_317 : Cf Tryz.prog 288 := ⟨Tryz.call288⟩
instance yAxS_318 : Cf Tryz.prog 290 := ⟨Tryz.call290⟩
instance yAxS_319 : Cf Tryz.prog 292 := ⟨Tryz.call292⟩
instance yAxS_320 : Cf Tryz.prog 293 := ⟨Tryz.call293⟩
instance yAxS_321 : Cf Tryz.prog 294 := ⟨Tryz.call294⟩
instance yAxS_322 : Cf Tryz.prog 295 := ⟨Tryz.call295⟩
instance yAxS_323 : Cf Tryz.prog 297 := ⟨Tryz.call297⟩
instance yAxS_324 : Cf Tryz.prog 305 := ⟨Tryz.call305⟩
instance yAxS_325 : Cf Tryz.prog 306 := ⟨Tryz.call306⟩
instance yAxS_326 : Cf Tryz.prog 312 := ⟨Tryz.call312⟩
instance yAxS_327 : Cf Tryz.prog 314 := ⟨Tryz.call314⟩
instance yAxS_328 : Cf Tryz.prog 316 := ⟨Tryz.call316⟩
instance yAxS_329 : Cf Tryz.prog 333 := ⟨Tryz.call333⟩
instance yAxS_330 : Cf Tryz.prog 366 := ⟨Tryz.call366⟩
instance yAxS_331 : Cf Tryz.prog 367 := ⟨Tryz.call367⟩
instance yAxS_332 : Cf Tryz.prog 368 := ⟨Tryz.call368⟩
instance yAxS_333 : Cf Tryz.prog 369 := ⟨Tryz.call369⟩
instance yAxS_334 : Cf Tryz.prog 370 := ⟨Tryz.call370⟩
instance yAxS_335 : Cf Tryz.prog 371 := ⟨Tryz.call371⟩
instance yAxS_336 : Cf Tryz.prog 372 := ⟨Tryz.call372⟩
instance yAxS_337 : Cf Tryz.prog 373 := ⟨Tryz.call373⟩
instance yAxS_338 : Cf Tryz.prog 374 := ⟨Tryz.call374⟩
instance yAxS_339 : Cf Tryz.prog 375 := ⟨Tryz.call375⟩
instance yAxS_340 : Cf Tryz.prog 376 := ⟨Tryz.call376⟩
instance yAxS_341 : Sh Tryz.prog 3 GR vR := ⟨trivial⟩
instance yAxS_342 : Sh Tryz.prog 4 Qd vD := ⟨trivial⟩
instance yAxS_343 : Sh Tryz.prog 25 GI vI := ⟨trivial⟩
instance yAxS_344 : Sh Tryz.prog 27 GQ vQ := ⟨trivial⟩
instance yAxS_345 : Sh Tryz.prog 53 Qd vD := ⟨trivial⟩
instance yAxS_346 : Sh Tryz.prog 71 GR vR := ⟨trivial⟩
instance yAxS_347 : Sh Tryz.prog 79 Ln vN := ⟨trivial⟩
instance yAxS_348 : Sh Tryz.prog 86 Iv vV := ⟨trivial⟩
instance yAxS_349 : Sh Tryz.prog 199 (U Ln) vUN := ⟨trivial⟩
instance yAxS_350 : Ub Tryz.prog 4 := ⟨Tryz.underlying4⟩
end Go.Sx
