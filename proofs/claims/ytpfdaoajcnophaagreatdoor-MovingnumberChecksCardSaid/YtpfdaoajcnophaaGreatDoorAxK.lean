/- A part of the proof of movingnumberChecks. -/
import Derived.Test.YtpfdaoajcnophaaGreatDoorB1
import Derived.Test.YtpfdaoajcnophaaGreatDoorProg
set_option linter.unusedVariables false
set_option linter.unusedSimpArgs false
open Go.Proofs.Tryz renaming runUnderlying27 → uu27, runUnderlying29 → uu29, runUnderlying72 → uu72, runUnderlying46 → uu46, runUnderlying163 → uu163, runUnderlying74 → uu74, runUnderlying88 → uu88, runUnderlying132 → uu132, runUnderlying292 → uu292, runUnderlying199 → uu199, runUnderlying332 → uu332
namespace Go.Sx
open Go Go.RowKit
class Sz (P:Program) (t:TypeId) (n:outParam Nat):Prop where h:∀ w,(sizeOf t).run P w=.ok n w
class Un (P:Program) (t:TypeId) (d:outParam TypeDesc):Prop where h:∀ w,(underlying t).run P w=.ok d w
class Fl (P:Program) (s:TypeId) (f:Nat) (ft:outParam TypeId) (off:outParam Nat):Prop where h:∃ (fs:Array Field) (fld:Field),(∀ w,(underlying s).run P w=.ok (.struct fs) w)∧fs[f]?=some fld∧fld.type=ft∧fld.offset=off
class Ag (P:Program) (t:TypeId) (b:outParam Bool):Prop where h:∀ w,(isAgg t).run P w=.ok b w
class Zc (P:Program) (t:TypeId) (cs:outParam (List Value)):Prop where h:∃ z:Value,(∀ w,(zeroValue t).run P w=.ok z w)∧z.cells.toList=cs
class Cf (P:Program) (f:FuncId):Prop where h:∀ args w,(callFunc f args).run P w=.ok (.enter f args) w
class Mt (P:Program) (T:TypeId) (u:Value) (name:String) (f:outParam FuncId):Prop where h:∀ w,(method (P.types.size+Made.depth) T u name).run P w=.ok (f,u) w
class Nl (P:Program) (T:TypeId) (u:Value) (name:String):Prop where h:∀ w,(nilAhead (P.types.size+Made.depth) T u name).run P w=.ok (some false) w
class Pp (P:Program) (t:TypeId):Prop where h:P.underlying t=some (.pointer (P.pointee t))
class Sh (P:Program) (t:TypeId) (α:outParam Type) (val:outParam (α→Value)):Prop where h:True
class Ep (P:Program) (t:TypeId) (α:outParam Type) (d:outParam (DecidableEq α)) (val:outParam (α→Value)):Prop where h:@EqP P t α d val
class Cel (v:Value) (cs:outParam (List Value)):Prop where h:v.cells.toList=cs
class Dc (cs:List Value) (v:outParam Value):Prop where h:mkv true cs=v
instance yAxK_1 (x:GI):Cel (vI x) (cI x):=⟨rfl⟩
instance yAxK_2 (x:GQ):Cel (vQ x) (cQ x):=⟨rfl⟩
instance yAxK_3 (x:GR):Cel (vR x) (cR x):=⟨rfl⟩
instance yAxK_4 (x:Iv):Cel (vV x) (cV x):=⟨rfl⟩
instance yAxK_5 (x:Qd):Cel (vD x) (cD x):=⟨rfl⟩
instance yAxK_6 (x:U Qd):Cel (vUD x) (cUD x):=⟨rfl⟩
instance yAxK_7 (x:Bd):Cel (vW x) (cW x):=⟨rfl⟩
instance yAxK_8 (x:Ev):Cel (vE x) (cE x):=⟨rfl⟩
instance yAxK_9 (x:Bt Qd Qd):Cel (vBD x) (cBD x):=⟨rfl⟩
instance yAxK_10:Cel (.agg #[]) []:=⟨rfl⟩
instance yAxK_11 (k:IntKind) (n:Int):Cel (.int k n) [.int k n]:=⟨rfl⟩
instance yAxK_12 (b:Bool):Cel (.bool b) [.bool b]:=⟨rfl⟩
instance yAxK_13 (b k:Nat):Cel (ptr b k) [ptr b k]:=⟨rfl⟩
instance yAxK_14 (s:ByteArray):Cel (.string s) [.string s]:=⟨rfl⟩
instance yAxK_15 (x:GI):Dc (cI x) (vI x):=⟨rfl⟩
instance yAxK_16 (x:GQ):Dc (cQ x) (vQ x):=⟨rfl⟩
instance yAxK_17 (x:GR):Dc (cR x) (vR x):=⟨rfl⟩
instance yAxK_18 (x:Iv):Dc (cV x) (vV x):=⟨rfl⟩
instance yAxK_19 (x:Qd):Dc (cD x) (vD x):=⟨rfl⟩
instance yAxK_20 (x:U Qd):Dc (cUD x) (vUD x):=⟨rfl⟩
instance yAxK_21 (x:Bd):Dc (cW x) (vW x):=⟨rfl⟩
instance yAxK_22 (x:Ev):Dc (cE x) (vE x):=⟨rfl⟩
instance yAxK_23 (x:Bt Qd Qd):Dc (cBD x) (vBD x):=⟨rfl⟩
abbrev iN (n:Nat):Value:=.int .i64 (n:Int)
def zc:List Nat→List Value
 | []=>[]
 | 1::l=>.bool false::zc l
 | 2::l=>.bool false::.string ⟨#[]⟩::zc l
 | _::l=>.int .i64 0::zc l
theorem og {p:Prop} (h:p:=by first | omega | (simp at hg; omega) | grind):p:=h
theorem asA {p:Prop} (h:p:=by assumption):p:=h
theorem rfZ {p:Prop} (h:p:=by rfl):p:=h
theorem clA {p:Prop} (h:p:=by infer_instance):p:=h
theorem ex {p:Prop} (h:p:=by first | exact gC rfl hg | rfl):p:=h
section
variable {P:Program} {w0 w:World} {F:List (Nat×Value)} {L:List Asn}
theorem exs_nil:evs F []=some []:=rfl
theorem exs_cons {x:Operand} {xs:List Operand} {v:Value} {vs:List Value} (h:ev F x=some v) (hs:evs F xs=some vs):evs F (x::xs)=some (v::vs):=mo h hs
theorem exs {p:Prop} (h:p:=by first | (repeat (first | exact exs_nil | (apply exs_cons; exact ex))) | rfl):p:=h
theorem slA {p:Prop} (h:p:=by first | assumption | exact View.sl (by assumption) | exact St.row_sl h 0 rfl | exact St.row_sl h 1 rfl | exact St.row_sl h 2 rfl | exact St.row_sl h 3 rfl | exact St.row_sl h 4 rfl | exact St.row_sl h 5 rfl | exact St.row_sl h 6 rfl):p:=h
theorem nn_v {α:Type} [Cod α] {sv:Value} {xs:List α} {i:Nat} (h:View w sv xs) (hi:i < xs.length):NN sv xs.length∧i < xs.length:=⟨h.nn hi,hi⟩
theorem nn_r {α:Type} [Cod α] {N:Nat} {a:Act} {e:TypeId} {sv:Value} {xs:List α} {i:Nat} (h:St w0 N F L a w) (j:Nat) (hj:L[j]?=some (Asn.row e sv xs)) (hi:i < xs.length):NN sv xs.length∧i < xs.length:=⟨h.row_nn j hj (Nat.zero_lt_of_lt hi),hi⟩
theorem nn_n {sv:Value} {n i:Nat} (h:NN sv n) (hi:i < n):NN sv n∧i < n:=⟨h,hi⟩
theorem nnA {p:Prop} (h:p:=by first | exact nn_v (by assumption) og | exact nn_r h 0 rfl og | exact nn_r h 1 rfl og | exact nn_r h 2 rfl og | exact nn_r h 3 rfl og | exact nn_r h 4 rfl og | exact nn_r h 5 rfl og | exact nn_r h 6 rfl og | exact nn_n (by assumption) og):p:=h
theorem nw_v {α:Type} [Cod α] {sv:Value} {xs:List α} (h:View w sv xs) (hi:0 < xs.length):NN sv xs.length:=h.nn hi
theorem nnB {p:Prop} (h:p:=by first | exact nw_v (by assumption) og | exact St.row_nn h 0 rfl og | exact St.row_nn h 1 rfl og | exact St.row_nn h 2 rfl og | exact St.row_nn h 3 rfl og | exact St.row_nn h 4 rfl og | exact St.row_nn h 5 rfl og | exact St.row_nn h 6 rfl og | assumption):p:=h
variable {x y ix:Operand} {t e tt s:TypeId} {k:IntKind}
theorem a_ia {sv:Value} {n i m:Nat} [hu:Un P t (.slice e)] [hz:Sz P e m] (hx:ev F x=some sv) (hi:ev F ix=some (.int k (i:Int))) (hs:NN sv n∧i < n):Rd P w0 F [] (.indexAddr t x ix) (sel sv (i*m+0)):=iT hu.h hz.h hx hi hs.1 hs.2
theorem a_fa {f ft off n b k k':Nat} [hu:Fl P s f ft off] [hz:Sz P ft n] (hn:Nat.beq n 0=false) (hx:ev F x=some (ptr b k)) (hk:k+off=k'):Rd P w0 F [] (.fieldAddr s x f) (ptr b k'):=by
 obtain ⟨fs,fld,h1,h2,rfl,rfl⟩:=hu.h
 exact fa h1 h2 hz.h hn hx hk
theorem a_fs {f ft off n m b k k':Nat} {sv:Value} [hu:Fl P s f ft off] [hz:Sz P ft n] (hn:Nat.beq n 0=false) (hx:ev F x=some (sel sv (b+k))) (hs:NN sv m) (hk:k+off=k'):Rd P w0 F [] (.fieldAddr s x f) (sel sv (b+k')):=by
 obtain ⟨fs,fld,h1,h2,rfl,rfl⟩:=hu.h
 exact Go.Sx.fs h1 h2 hz.h hn hs hx (by rw [← hk,Nat.add_assoc])
theorem a_len {sv:Value} {n:Nat} [hu:Un P t (.slice e)] (hx:ev F x=some sv) (hs:SL sv n):Rd P w0 F [] (.call ⟨.builtin .len,#[x],#[t]⟩) (.int .i64 (n:Int)):=g9 hu.h hx hs
theorem a_ldW {n b:Nat} {cs:List Value} {v:Value} [ht:Ag P t true] [hz:Sz P t n] (hx:ev F x=some (ptr b 0)) (hn:Nat.blt 0 n=true) (hl:cs.length=n) [hv:Dc cs v]:Rd P w0 F [Asn.blk b cs e] (.load t x) v :=
 kt ht.h hz.h hx hn (by rw [List.drop_zero,← hl,List.take_length]) (by rw [List.drop_zero,← hl,List.take_length]; exact hv.h)
theorem a_ldS {α:Type} {val:α→Value} {y:α} {agg:Bool} {n b k:Nat} {cs:List Value} [ht:Ag P t agg] [hz:Sz P t n] [Sh P t α val] (hx:ev F x=some (ptr b k)) (hn:Nat.blt 0 n=true) (hl:((cs.drop k).take n).length=n) (hv:mkv agg ((cs.drop k).take n)=val y):Rd P w0 F [Asn.blk b cs e] (.load t x) (val y):=kt ht.h hz.h hx hn hl hv
theorem a_ld1 {n b k:Nat} {cs:List Value} {v:Value} [ht:Ag P t false] [hz:Sz P t n] (hx:ev F x=some (ptr b k)) (hn:Nat.blt 0 n=true) (hl:((cs.drop k).take n).length=n) (hv:cs[k]?=some v):Rd P w0 F [Asn.blk b cs e] (.load t x) v :=
 kt ht.h hz.h hx hn hl (by
  have:((cs.drop k).take n)[0]?=some v:=by
   rw [List.getElem?_take_of_lt (Nat.le_of_ble_eq_true hn),List.getElem?_drop]; simpa using hv
  cases h:(cs.drop k).take n with
  | nil=>rw [h] at this; simp at this
  | cons u us=>rw [h] at this; simp at this; simp [mkv,this])
theorem a_ldRS {α β:Type} [Cod α] {val:β→Value} {y:β} {agg:Bool} {n k m:Nat} {sv:Value} {xs:List α} {i:Nat} {u:α} [ht:Ag P t agg] [hz:Sz P t n] [Sh P t β val] (hx:ev F x=some (sel sv (i*m+k))) (hq:Cod.n α=m) (hi:xs[i]?=some u) (hn:Nat.blt 0 n=true)
 (hl:(((Cod.enc u).drop k).take n).length=n) (hv:mkv agg (((Cod.enc u).drop k).take n)=val y):Rd P w0 F [Asn.row e sv xs] (.load t x) (val y):=iM ht.h hz.h hi hx (by rw [hq]) hn hl hv
theorem a_ldVS {α β:Type} [Cod α] {val:β→Value} {y:β} {agg:Bool} {n k m:Nat} {sv:Value} {xs:List α} {i:Nat} {u:α} [ht:Ag P t agg] [hz:Sz P t n] [Sh P t β val] (hx:ev F x=some (sel sv (i*m+k))) (hw:View w0 sv xs) (hq:Cod.n α=m) (hi:xs[i]?=some u) (hn:Nat.blt 0 n=true)
 (hl:(((Cod.enc u).drop k).take n).length=n) (hv:mkv agg (((Cod.enc u).drop k).take n)=val y):Rd P w0 F [] (.load t x) (val y):=oW ht.h hz.h hw hi hx (by rw [hq]) hn hl hv
theorem one_of {cs:List Value} {n k:Nat} {v:Value} (hn:Nat.blt 0 n=true) (hv:cs[k]?=some v):mkv false ((cs.drop k).take n)=v:=by
 have:((cs.drop k).take n)[0]?=some v:=by
  rw [List.getElem?_take_of_lt (Nat.le_of_ble_eq_true hn),List.getElem?_drop]; simpa using hv
 cases h:(cs.drop k).take n with
 | nil=>rw [h] at this; simp at this
 | cons u us=>rw [h] at this; simp at this; simp [mkv,this]
theorem a_ldR1 {α:Type} [Cod α] {n k m:Nat} {sv v:Value} {xs:List α} {i:Nat} {u:α} [ht:Ag P t false] [hz:Sz P t n] (hx:ev F x=some (sel sv (i*m+k))) (hq:Cod.n α=m) (hi:xs[i]?=some u) (hn:Nat.blt 0 n=true)
 (hl:(((Cod.enc u).drop k).take n).length=n) (hv:(Cod.enc u)[k]?=some v):Rd P w0 F [Asn.row e sv xs] (.load t x) v:=iM ht.h hz.h hi hx (by rw [hq]) hn hl (one_of hn hv)
theorem a_ldV1 {α:Type} [Cod α] {n k m:Nat} {sv v:Value} {xs:List α} {i:Nat} {u:α} [ht:Ag P t false] [hz:Sz P t n] (hx:ev F x=some (sel sv (i*m+k))) (hw:View w0 sv xs) (hq:Cod.n α=m) (hi:xs[i]?=some u) (hn:Nat.blt 0 n=true)
 (hl:(((Cod.enc u).drop k).take n).length=n) (hv:(Cod.enc u)[k]?=some v):Rd P w0 F [] (.load t x) v:=oW ht.h hz.h hw hi hx (by rw [hq]) hn hl (one_of hn hv)
theorem giA {p:Prop} (h:p:=by first | exact iF og | exact qZ og):p:=h
theorem hqA {p:Prop} (h:p:=by rfl):p:=h
theorem hkA {p:Prop} (h:p:=by first | exact Nat.zero_add _ | exact Nat.add_zero _ | rfl):p:=h
theorem a_addN {a b:Nat} (hx:ev F x=some (.int .i64 (a:Int))) (hy:ev F y=some (.int .i64 (b:Int))) (h:a+b < 9223372036854775808):Rd P w0 F [] (.binOp .add t x y tt) (.int .i64 ((a+b:Nat):Int)):=eV hx hy (by rw [IntKind.wrap_i64]; omega)
theorem a_add1 {a:Nat} (hx:ev F x=some (.int .i64 (a:Int))) (hy:ev F y=some (.int .i64 1)) (h:a < 9223372036854775807):Rd P w0 F [] (.binOp .add t x y tt) (.int .i64 ((a+1:Nat):Int)):=eV hx hy (by rw [IntKind.wrap_i64]; omega)
theorem a_sub1 {a:Nat} (hx:ev F x=some (.int .i64 (a:Int))) (hy:ev F y=some (.int .i64 1)) (h:0 < a∧a≤9223372036854775807):Rd P w0 F [] (.binOp .sub t x y tt) (.int .i64 ((a - 1:Nat):Int)):=fv hx hy (by rw [IntKind.wrap_i64]; omega)
theorem a_eqlT {α:Type} {d:DecidableEq α} {val:α→Value} {b c:α} [he:Ep P t α d val] (hx:ev F x=some (val b)) (hy:ev F y=some (val c)):Rd P w0 F [] (.binOp .eql t x y tt) (.bool (decide (b=c))):=r_eqlT he.h hx hy
theorem a_neqT {α:Type} {d:DecidableEq α} {val:α→Value} {b c:α} [he:Ep P t α d val] (hx:ev F x=some (val b)) (hy:ev F y=some (val c)):Rd P w0 F [] (.binOp .neq t x y tt) (.bool (!decide (b=c))):=r_neqT he.h hx hy
theorem aaf:bs 0=⟨#[]⟩:=rfl
theorem a_eqB0 {m:Nat} (hx:ev F x=some (.string (bs m))) (hy:ev F y=some (.string ⟨#[]⟩)):Rd P w0 F [] (.binOp .eql t x y tt) (.bool (decide (m=0))):=yn hx (by rw [hy,aaf])
theorem a_neB0 {m:Nat} (hx:ev F x=some (.string (bs m))) (hy:ev F y=some (.string ⟨#[]⟩)):Rd P w0 F [] (.binOp .neq t x y tt) (.bool (!decide (m=0))):=yi hx (by rw [hy,aaf])
theorem a_nilS {sv:Value} {n q:Nat} (hx:ev F x=some (sel sv q)) (hn:NN sv n):Rd P w0 F [] (.nilCheck x) (sel sv q):=r_nilS hn hx
theorem a_nilM {m:String} {T:TypeId} {u:Value} [hn:Nl P T u m] (hx:ev F x=some (.func (.method m) #[.iface T u] #[])):Rd P w0 F [] (.nilCheck x) (.func (.method m) #[.iface T u] #[]):=r_nilM hx hn.h
theorem a_neqPS {sv:Value} {n q:Nat} [hu:Pp P t] (hx:ev F x=some (sel sv q)) (hn:NN sv n):Rd P w0 F [] (.binOp .neq t x (.const (.pointer none)) tt) (.bool true):=r_neqPS hu.h hn hx
theorem a_neqPN [hu:Pp P t] (hx:ev F x=some (.pointer none)):Rd P w0 F [] (.binOp .neq t x (.const (.pointer none)) tt) (.bool false):=ry hu.h hx
class On:Prop where t:True
theorem a_iaA [On] (i:Nat) {b o0 n m:Nat} [hu:Un P t (.array n e)] [hz:Sz P e m] (hx:ev F x=some (ptr b o0)) (hi:ev F ix=some (.int k (i:Int))) (h:Nat.blt i n=true):Rd P w0 F [] (.indexAddr t x ix) (ptr b (o0+i*m)):=r_iaA hu.h hz.h hx hi (Nat.le_of_ble_eq_true h)
theorem a_addI [On] {a b:Int} (hx:ev F x=some (.int .i64 a)) (hy:ev F y=some (.int .i64 b)) (h:-9223372036854775808≤a+b∧a+b < 9223372036854775808):Rd P w0 F [] (.binOp .add t x y tt) (.int .i64 (a+b)):=eV hx hy (by rw [IntKind.wrap_i64]; omega)
class Bu (P:Program) (t:TypeId) (ix:List Nat) (vs:List Value) (v:outParam Value):Prop where h:∀ {w0:World} {F:List (Nat×Value)} {parts:List (Nat×Operand)},parts.map (·.1)=ix→evs F (parts.map (·.2))=some vs→Rd P w0 F [] (.build t parts.toArray) v
inductive PX (F:List (Nat×Value)):List (Nat×Operand)→List Nat→List Value→Prop
 | nil:PX F [] [] []
 | cons {i:Nat} {x:Operand} {v:Value} {ps:List (Nat×Operand)} {is:List Nat} {vs:List Value} (h:ev F x=some v) (k:PX F ps is vs):PX F ((i,x)::ps) (i::is) (v::vs)
theorem PX.ok {ps:List (Nat×Operand)} {is:List Nat} {vs:List Value} (h:PX F ps is vs):ps.map (·.1)=is∧evs F (ps.map (·.2))=some vs:=by
 induction h with
 | nil=>exact ⟨rfl,rfl⟩
 | cons h _ ih=>exact ⟨by rw [List.map_cons,ih.1],mo h ih.2⟩
theorem pxA {p:Prop} (h:p:=by repeat (first | exact PX.nil | (apply PX.cons; exact ex))):p:=h
theorem a_bd {parts:List (Nat×Operand)} {ix:List Nat} {vs:List Value} {v:Value} (hx:PX F parts ix vs) (hb:Bu P t ix vs v):Rd P w0 F [] (.build t parts.toArray) v:=hb.h hx.ok.1 hx.ok.2
theorem Bu.of {ix:List Nat} {vs zero cells:List Value} {places:List (Nat×Nat)} {v:Value} (hb:BuildF P t zero places) (hf:qB (fun i=>places[i]?) zero (ix.zip vs)=some cells) (hv:Value.agg cells.toArray=v):Bu P t ix vs v:=⟨fun hi hx=>bX hb hx (by rw [hi]; exact hf) hv⟩
class Ie (P:Program) (t:TypeId):Prop where h:∀ {w0:World} {F:List (Nat×Value)} {x:Operand} {v:Value},ev F x=some v→Rd P w0 F [] (.makeInterface t x) (.iface t v)
theorem a_if {v:Value} [hi:Ie P t] (hx:ev F x=some v):Rd P w0 F [] (.makeInterface t x) (.iface t v):=hi.h hx
class Ub (P:Program) (t:TypeId):Prop where h:P.underlying t=some .bool
theorem a_eqB [On] {b c:Bool} [hu:Ub P t] (hx:ev F x=some (.bool b)) (hy:ev F y=some (.bool c)):Rd P w0 F [] (.binOp .eql t x y tt) (.bool (b == c)):=yo hu.h hx hy
theorem a_neB [On] {b c:Bool} [hu:Ub P t] (hx:ev F x=some (.bool b)) (hy:ev F y=some (.bool c)):Rd P w0 F [] (.binOp .neq t x y tt) (.bool (b != c)):=sU hu.h hx hy
theorem rdA {p:Prop} (h:p:=by first | exact ay ex | exact aA ex | exact ur ex ex | exact r_neq ex ex | exact jT ex ex | exact r_gtr ex ex | exact ym ex ex | exact r_leq ex ex | exact r_not ex | exact cY ex rfZ | exact r_and rfl (fun e=>gC rfl e) | exact r_or rfl (fun e=>gC rfl (notI e)) | exact r_and ex (fun e=>gC rfl (andI hg e)) | exact r_or ex (fun e=>gC rfl (andI hg (notI e))) | exact a_fa rfZ ex hkA | exact a_ia ex ex nnA | exact a_fs rfZ ex nnB hkA | exact a_len ex slA | exact a_ldVS ex asA hqA giA rfZ rfZ rfZ | exact a_ldV1 ex asA hqA giA rfZ rfZ rfZ | exact a_add1 ex ex og | exact a_sub1 ex ex og | exact a_addN ex ex og | exact a_eqlT ex ex | exact a_neqT ex ex | exact yn ex ex | exact yi ex ex | exact a_eqB0 ex ex | exact a_neB0 ex ex | exact a_nilS ex nnB | exact r_nilP ex | exact a_neqPN ex | exact a_neqPS ex nnB | exact uq ex | exact a_nilM ex | exact a_if ex | exact a_addI ex ex og | exact a_iaA 0 ex ex rfZ | exact a_iaA 1 ex ex rfZ | exact a_eqB ex ex | exact a_neB ex ex | exact a_bd pxA clA):p:=h
end
section
variable {P:Program} {t e:TypeId} {n k i m:Nat} {cs:List Value} {v:Value}
def L1 (P:Program) (cs:List Value) (e:TypeId) (k:Nat) (t:TypeId) (v:Value):Prop:=∀ (w0:World) (F:List (Nat×Value)) (x:Operand) (b:Nat),ev F x=some (ptr b k)→Rd P w0 F [Asn.blk b cs e] (.load t x) v
theorem l1W [Ag P t true] [Sz P t n] (hn:Nat.blt 0 n=true) (hl:cs.length=n) [Dc cs v]:L1 P cs e 0 t v:=fun _ _ _ _ hx=>a_ldW hx hn hl
theorem l1S {α:Type} {val:α→Value} {y:α} {agg:Bool} [Ag P t agg] [Sz P t n] [Sh P t α val] (hn:Nat.blt 0 n=true) (hl:((cs.drop k).take n).length=n) (hv:mkv agg ((cs.drop k).take n)=val y):L1 P cs e k t (val y):=fun _ _ _ _ hx=>a_ldS hx hn hl hv
theorem l11 [Ag P t false] [Sz P t n] (hn:Nat.blt 0 n=true) (hl:((cs.drop k).take n).length=n) (hv:cs[k]?=some v):L1 P cs e k t v:=fun _ _ _ _ hx=>a_ld1 hx hn hl hv
theorem l1A {p:Prop} (h:p:=by first | exact l1W rfZ rfZ | exact l1S rfZ rfZ rfZ | exact l11 rfZ rfZ rfZ):p:=h
def LR {α:Type} [Cod α] (P:Program) (xs:List α) (e:TypeId) (q:Nat) (t:TypeId) (v:Value):Prop:=∀ (w0:World) (F:List (Nat×Value)) (x:Operand) (sv:Value),ev F x=some (sel sv q)→Rd P w0 F [Asn.row e sv xs] (.load t x) v
theorem lrS {α β:Type} [Cod α] {val:β→Value} {y:β} {agg:Bool} {xs:List α} {u:α} [Ag P t agg] [Sz P t n] [Sh P t β val] (hq:Cod.n α=m) (hi:xs[i]?=some u) (hn:Nat.blt 0 n=true) (hl:(((Cod.enc u).drop k).take n).length=n) (hv:mkv agg (((Cod.enc u).drop k).take n)=val y):LR P xs e (i*m+k) t (val y):=fun _ _ _ _ hx=>a_ldRS hx hq hi hn hl hv
theorem lr1 {α:Type} [Cod α] {xs:List α} {u:α} [Ag P t false] [Sz P t n] (hq:Cod.n α=m) (hi:xs[i]?=some u) (hn:Nat.blt 0 n=true) (hl:(((Cod.enc u).drop k).take n).length=n) (hv:(Cod.enc u)[k]?=some v):LR P xs e (i*m+k) t v:=fun _ _ _ _ hx=>a_ldR1 hx hq hi hn hl hv
theorem lrA {p:Prop} (h:p:=by first | exact lrS hqA giA rfZ rfZ rfZ | exact lr1 hqA giA rfZ rfZ rfZ):p:=h
def LB (P:Program) (L:List Asn) (b k:Nat) (t:TypeId) (v:Value):Prop:=∃ (i:Nat) (cs:List Value) (e:TypeId),L[i]?=some (Asn.blk b cs e)∧L1 P cs e k t v
theorem lb (i:Nat) {L:List Asn} {b:Nat} (hi:L[i]?=some (Asn.blk b cs e)) (h:L1 P cs e k t v):LB P L b k t v:=⟨i,cs,e,hi,h⟩
def LW (P:Program) (L:List Asn) (sv:Value) (q:Nat) (t:TypeId) (v:Value):Prop:=∃ (i:Nat) (α:Type) (_:Cod α) (xs:List α) (e:TypeId),L[i]?=some (Asn.row e sv xs)∧LR P xs e q t v
theorem lw (i:Nat) {L:List Asn} {sv:Value} {q:Nat} {α:Type} [c:Cod α] {xs:List α} (hi:L[i]?=some (Asn.row e sv xs)) (h:LR P xs e q t v):LW P L sv q t v:=⟨i,α,c,xs,e,hi,h⟩
variable {w0:World} {F:List (Nat×Value)} {L:List Asn} {x:Operand} {b q:Nat} {sv:Value}
theorem Rd_b (hx:ev F x=some (ptr b k)) (h:LB P L b k t v):Rd P w0 F L (.load t x) v:=by
 obtain ⟨i,cs,e,hi,h⟩:=h
 exact (h w0 F x b hx).of_mem hi
theorem Rd_s (hx:ev F x=some (sel sv q)) (h:LW P L sv q t v):Rd P w0 F L (.load t x) v:=by
 obtain ⟨i,_,_,_,_,hi,h⟩:=h
 exact (h w0 F x sv hx).of_mem hi
end
theorem ldA {p:Prop} (h:p:=by
 first | (apply Rd_b; exact ex; (first | exact lb 0 rfl l1A | exact lb 1 rfl l1A | exact lb 2 rfl l1A | exact lb 3 rfl l1A | exact lb 4 rfl l1A | exact lb 5 rfl l1A | exact lb 6 rfl l1A | exact lb 7 rfl l1A | exact lb 8 rfl l1A | exact lb 9 rfl l1A | exact lb 10 rfl l1A | exact lb 11 rfl l1A)) | (apply Rd_s; exact ex; (first | exact lw 0 rfl lrA | exact lw 1 rfl lrA | exact lw 2 rfl lrA | exact lw 3 rfl lrA | exact lw 4 rfl lrA | exact lw 5 rfl lrA | exact lw 6 rfl lrA | exact lw 7 rfl lrA | exact lw 8 rfl lrA))):p:=h
theorem pT {α:Type} {c:Bool} {x y v:α} (h:c=true) (k:x=v):(bif c then x else y)=v:=(cT h).trans k
theorem pF {α:Type} {c:Bool} {x y v:α} (h:c=false) (k:y=v):(bif c then x else y)=v:=(cF h).trans k
theorem pL {S R T:Type} {x X:S ⊕ R} {f:S→T} {g:R→T} {s:S} {v:T} (h:x=X) (h':X=.inl s) (k:f s=v):fin x f g=v:=(mO (h.trans h')).trans k
theorem pR {S R T:Type} {x X:S ⊕ R} {f:S→T} {g:R→T} {r:R} {v:T} (h:x=X) (h':X=.inr r) (k:g r=v):fin x f g=v:=(fin_r (h.trans h')).trans k
theorem pt {p:Prop} (h:p:=by
 repeat (first | (apply pT; assumption) | (apply pF; assumption) | (apply pL; assumption; assumption) | (apply pR; assumption; assumption))
 rfl):p:=h
theorem sbA {p:Prop} (h:p:=by repeat (first | exact trivial | refine ⟨rfl,?_⟩)):p:=h
section
variable {P:Program} {w0 w:World} {N:Nat} {F F':List (Nat×Value)} {L:List Asn} {a:Act}
theorem St.rs (h:St w0 N F L a w) (hF:SubF F' F:=by exact sbA):St w0 N F' L a w:=h.sub hF
theorem St.re (h:St w0 N F L a w) (ix:List Nat) (hn:ix.Nodup:=by decide) (hF:SubF F' F:=by exact sbA):St w0 N F' (ix.filterMap fun i=>L[i]?) a w:=(h.pick ix hn).sub hF
theorem rt {fn:Func} {R:Ending→World→Prop} {rs:List ResultVar} {vs:List Value} {v:Value} (h:St w0 N F L a w) (hrs:fn.results=rs.toArray:=by rfl) (hr:Res P w F L rs vs:=by first | exact .tmp rfl .nil | exact .tmp rfl (.tmp rfl .nil) | exact .nil | exact .tmp rfl (.tmp rfl (.tmp rfl .nil))) (hv:wr vs=v:=by rfl) (hR:R (.returned v) w) :
 bodyPost P fn R .ret a w:=ret h hrs hr hv hR
end
section
variable {P:Program} {w0:World} {N:Nat} {F:List (Nat×Value)} {L:List Asn} {ops:Array Oper} {Q:Exit→Act→World→Prop}
def thn (P:Program) (y:Code) (Q:Exit→Act→World→Prop):Exit→Act→World→Prop:=Exit.then (fun a w=>y.wp P Q a w) Q
theorem t_rs {id:Nat} {l:List Oper} {y:Code} (k:∀ a w,St w0 N F L a w→wpList P l.toArray (thn P y Q) l a w):∀ a w,St w0 N F L a w→(Code.seq (.region id l.toArray false) y).wp P Q a w:=fun a w h=>wp_seq (c_r (k a w h))
theorem t_seq {x y:Code} (k:∀ a w,St w0 N F L a w→x.wp P (thn P y Q) a w):∀ a w,St w0 N F L a w→(Code.seq x y).wp P Q a w:=fun a w h=>wp_seq (k a w h)
theorem t_nil {y:Code} (k:∀ a w,St w0 N F L a w→y.wp P Q a w):∀ a w,St w0 N F L a w→wpList P ops (thn P y Q) [] a w:=fun a w h=>fW (k a w h)
theorem t_nilQ (k:∀ a w,St w0 N F L a w→Q .normal a w):∀ a w,St w0 N F L a w→wpList P ops Q [] a w:=fun a w h=>fW (k a w h)
theorem t_nrm {y:Code} (k:∀ a w,St w0 N F L a w→y.wp P Q a w):∀ a w,St w0 N F L a w→thn P y Q .normal a w:=k
theorem t_ret {y:Code} (k:∀ a w,St w0 N F L a w→Q .ret a w):∀ a w,St w0 N F L a w→thn P y Q .ret a w:=k
theorem t_ex {y:Code} {i:Nat} (k:∀ a w,St w0 N F L a w→Q (.exit i) a w):∀ a w,St w0 N F L a w→thn P y Q (.exit i) a w:=k
theorem t_kret {K:Act→World→Prop} (k:∀ a w,St w0 N F L a w→Q .ret a w):∀ a w,St w0 N F L a w→Exit.then K Q .ret a w:=k
theorem t_kex {K:Act→World→Prop} {i:Nat} (k:∀ a w,St w0 N F L a w→Q (.exit i) a w):∀ a w,St w0 N F L a w→Exit.then K Q (.exit i) a w:=k
theorem t_bnrm {id:Nat} (k:∀ a w,St w0 N F L a w→Q .normal a w):∀ a w,St w0 N F L a w→Exit.inBlock id Q .normal a w:=k
theorem t_bret {id:Nat} (k:∀ a w,St w0 N F L a w→Q .ret a w):∀ a w,St w0 N F L a w→Exit.inBlock id Q .ret a w:=k
theorem t_bex {id i:Nat} (hi:Nat.beq i id=true) (k:∀ a w,St w0 N F L a w→Q .normal a w):∀ a w,St w0 N F L a w→Exit.inBlock id Q (.exit i) a w:=fun a w h=>by
 show if i=id then _ else _
 rw [if_pos (Nat.eq_of_beq_eq_true hi)]; exact k a w h
theorem t_bex' {id i:Nat} (hi:Nat.beq i id=false) (k:∀ a w,St w0 N F L a w→Q (.exit i) a w):∀ a w,St w0 N F L a w→Exit.inBlock id Q (.exit i) a w:=fun a w h=>by
 show if i=id then _ else _
 rw [if_neg (fun e=>by rw [e,Nat.beq_refl] at hi; cases hi)]; exact k a w h
theorem gld {rest:List Oper} {ty:TypeId} {pos:String} {aft:Array Edge} {d:Nat} {t:TypeId} {x:Operand} {v:Value} (hs:Rd P w0 F L (.load t x) v) (hd:Nat.blt d N=true) (k:∀ a w,St w0 N ((d,v)::F) L a w→wpList P ops Q rest a w) :
 ∀ a w,St w0 N F L a w→wpList P ops Q (⟨some d,.load t x,ty,pos,aft,none⟩::rest) a w:=fun a w h=>rd h hs hd k
theorem xu (i:Nat) {rest:List Oper} {ty:TypeId} {pos:String} {aft:Array Edge} {t e:TypeId} {x y:Operand} {b n:Nat} {v:Value} {cs us:List Value} (hx:ev F x=some (ptr b 0)) (hi:L[i]?=some (Asn.blk b cs e)) [hz:Sz P t n] (hy:ev F y=some v)
 (hc:Cel v us) (hn:us.length=n) (h1:us.all Value.oneCell'=true) (hf:Nat.beq n cs.length=true)
 (c:∀ a w,St w0 N F (L.set i (Asn.blk b us e)) a w→wpList P ops Q rest a w):∀ a w,St w0 N F L a w→wpList P ops Q (⟨none,.store t x y,ty,pos,aft,none⟩::rest) a w :=
 gs i us hi hz.h hx hy hc.h hn h1 (by rw [Nat.zero_add,← Nat.eq_of_beq_eq_true hf]; exact Nat.ble_self_eq_true n) (by
  have:=Nat.eq_of_beq_eq_true hf
  simp [spl,hn,this]) c
theorem t_g {j dj:Nat} {want c b g:Bool} {rest:List Oper} {ty:TypeId} {pos:String} {aft:Array Edge} {op:Op} {d:Nat} (hj:(ops[j]?).bind (·.dst)=some dj) (hl:look F dj=some (gv c (.bool b))∨(look F dj=some (.bool b)∧c=true)) (hg:(c && (b == want))=g) {v:Value} (hs:g=true→Rd P w0 F L op v) (hd:Nat.blt d N=true)
 (k:∀ a w,St w0 N ((d,gv g v)::F) L a w→wpList P ops Q rest a w):∀ a w,St w0 N F L a w→wpList P ops Q (⟨some d,op,ty,pos,aft,some (j,want)⟩::rest) a w:=fun _ _ h=>by
 rcases hl with hl | ⟨hl,rfl⟩
 · exact gd h hj hl hg (fun e=>(hs e).step) hd k
 · exact gd (c:=true) h hj hl hg (fun e=>(hs e).step) hd k
end
attribute [irreducible] thn
section
variable {P:Program} {w0:World} {N:Nat} {F F':List (Nat×Value)} {L L':List Asn} {ops:Array Oper} {Q:Exit→Act→World→Prop} {R R':Act→World→Prop}
theorem rgA {p:Prop} (h:p:=by first | exact ldA | exact Rd.of_nil rdA):p:=h
theorem wu {p:Prop} (h:p:=by
 intro k
 repeat (first | (apply g0; exact rdA; exact rfl) | refine t_rs ?_ | refine t_nil ?_ | refine t_seq ?_ | refine t_nrm ?_ | (apply gld; exact ldA; exact rfl) | refine gS ?_ | refine gB ?_ | refine gR ?_ | refine t_bnrm ?_ | refine gE ?_ | refine gT ?_ | refine t_ret ?_ | refine t_bret ?_ | refine t_kret ?_ | refine t_bex rfl ?_ | refine t_bex' rfl ?_ | refine t_ex ?_ | refine t_kex ?_ | (apply xu 0; exact ex; exact rfl; exact ex; infer_instance; exact rfl; exact rfl; exact rfl) | (apply xu 1; exact ex; exact rfl; exact ex; infer_instance; exact rfl; exact rfl; exact rfl) | (apply xu 2; exact ex; exact rfl; exact ex; infer_instance; exact rfl; exact rfl; exact rfl) | (apply xu 3; exact ex; exact rfl; exact ex; infer_instance; exact rfl; exact rfl; exact rfl) | (apply xu 4; exact ex; exact rfl; exact ex; infer_instance; exact rfl; exact rfl; exact rfl) | (apply xu 5; exact ex; exact rfl; exact ex; infer_instance; exact rfl; exact rfl; exact rfl) | (apply xu 6; exact ex; exact rfl; exact ex; infer_instance; exact rfl; exact rfl; exact rfl) | (apply xu 7; exact ex; exact rfl; exact ex; infer_instance; exact rfl; exact rfl; exact rfl) | (apply xu 8; exact ex; exact rfl; exact ex; infer_instance; exact rfl; exact rfl; exact rfl) | (apply xu 9; exact ex; exact rfl; exact ex; infer_instance; exact rfl; exact rfl; exact rfl) | (apply xu 10; exact ex; exact rfl; exact ex; infer_instance; exact rfl; exact rfl; exact rfl) | (apply xu 11; exact ex; exact rfl; exact ex; infer_instance; exact rfl; exact rfl; exact rfl) | refine t_nilQ ?_ | (apply t_g; exact rfl; (first | exact .inl rfl | exact .inr ⟨rfl,rfl⟩); (first | exact g_t | exact g_f | exact g_ct | exact g_cf); exact fun hg=>rgA; exact rfl))
 exact k):p:=h
theorem W (w:(∀ a w,St w0 N F' L' a w→R' a w)→∀ a w,St w0 N F L a w→R a w:=by exact wu) (k:∀ a w,St w0 N F' L' a w→R' a w):∀ a w,St w0 N F L a w→R a w:=w k
theorem rx {fn:Func} {R1:Ending→World→Prop} {rs:List ResultVar} {vs:List Value} {v:Value} {R0:Act→World→Prop} {a:Act} {w:World} (h:St w0 N F L a w) (k:(∀ a w,St w0 N F' L' a w→bodyPost P fn R1 .ret a w)→∀ a w,St w0 N F L a w→R0 a w:=by exact wu) (hrs:fn.results=rs.toArray:=by rfl)
 (hr:∀ w,Res P w F' L' rs vs:=by intro w; first | exact .tmp rfl .nil | exact .tmp rfl (.tmp rfl .nil) | exact .nil | exact .tmp rfl (.tmp rfl (.tmp rfl .nil))) (hv:wr vs=v:=by rfl) (hR:∀ a w,St w0 N F' L' a w→R1 (.returned v) w):R0 a w:=k (fun a w h=>ret h hrs (hr w) hv (hR a w h)) a w h
theorem nx {I:Nat→Act→World→Prop} {n:Nat} {R0:Act→World→Prop} {a:Act} {w:World} (h:St w0 N F L a w) (k:(∀ a w,St w0 N F' L' a w→Exit.then (fun a' w'=>∃ n',n' < n∧I n' a' w') Q .normal a w)→∀ a w,St w0 N F L a w→R0 a w:=by exact wu)
 (hk:∀ a w,St w0 N F' L' a w→∃ n',n' < n∧I n' a w):R0 a w:=k (fun a w h=>hk a w h) a w h
variable {d:Nat} {op:Op} {rest:List Oper} {ty:TypeId} {pos:String} {aft:Array Edge}
theorem xo {v:Value} (w:(∀ a w,St w0 N F' L' a w→wpList P ops Q (⟨some d,op,ty,pos,aft,none⟩::rest) a w)→∀ a w,St w0 N F L a w→R a w:=by exact wu) (hs:Rd P w0 F' [] op v) (hd:Nat.blt d N=true:=by rfl)
 (k:∀ a w,St w0 N ((d,v)::F') L' a w→wpList P ops Q rest a w):∀ a w,St w0 N F L a w→R a w:=w fun _ _ h=>rd0 h hs hd k
theorem xo1 (i:Nat) {r:Asn} {v:Value} (w:(∀ a w,St w0 N F' L' a w→wpList P ops Q (⟨some d,op,ty,pos,aft,none⟩::rest) a w)→∀ a w,St w0 N F L a w→R a w:=by exact wu) (hs:Rd P w0 F' [r] op v) (hi:L'[i]?=some r:=by rfl) (hd:Nat.blt d N=true:=by rfl)
 (k:∀ a w,St w0 N ((d,v)::F') L' a w→wpList P ops Q rest a w):∀ a w,St w0 N F L a w→R a w:=w fun _ _ h=>rd1 h i hi hs hd k
theorem ent_w {f:FuncId} {x:Operand} {args:Array Operand} {ats:Array TypeId} {vs cap us:List Value} (hc:∀ args w,(callFunc f args).run P w=.ok (.enter f args) w) (hx:ev F x=some (.func (.func f) #[] cap.toArray)) (ha:evs F args.toList=some us) (hv:us++cap=vs) :
 Ent P F (.call ⟨.value x,args,ats⟩) f vs:=hv ▸ uH hc hx ha
theorem enA {p:Prop} (h:p:=by first | exact cz Cf.h exs | exact ent_i Mt.h Cf.h ex exs | exact ent_w Cf.h ex exs rfZ | exact ent_w (cap:=[]) Cf.h ex exs rfZ):p:=h
theorem xc {f:FuncId} {vs:List Value} {v:Value} {p:Prop} (w:(∀ a w,St w0 N F' L' a w→wpList P ops Q (⟨some d,op,ty,pos,aft,none⟩::rest) a w)→∀ a w,St w0 N F L a w→R a w:=by exact wu)
 (ct:∀ w,Below w0.heap.size w0 w→(∃ U,Sep w0.heap.size w L' U)→Calls P f vs.toArray w (dh w v p)) (he:Ent P F' op f vs:=by exact enA) (hd:Nat.blt d N=true:=by rfl)
 (k:∀ a w,St w0 N ((d,v)::F') L' a w→wpList P ops Q rest a w):∀ a w,St w0 N F L a w→R a w:=w fun _ _ h=>xh h he ct hd k
theorem xk {f:FuncId} {vs:List Value} {v:Value} {p:Prop} (ct:∀ w,Calls P f vs.toArray w (dh w v p)) (w:(∀ a w,St w0 N F' L' a w→wpList P ops Q (⟨some d,op,ty,pos,aft,none⟩::rest) a w)→∀ a w,St w0 N F L a w→R a w:=by exact wu)
 (he:Ent P F' op f vs:=by exact enA) (hd:Nat.blt d N=true:=by rfl)
 (k:∀ a w,St w0 N ((d,v)::F') L' a w→wpList P ops Q rest a w):∀ a w,St w0 N F L a w→R a w:=w fun _ _ h=>xh h he (kk ct) hd k
theorem xa {t:TypeId} {cs:List Value} (w:(∀ a w,St w0 N F' L' a w→wpList P ops Q (⟨some d,.alloc t,ty,pos,aft,none⟩::rest) a w)→∀ a w,St w0 N F L a w→R a w:=by exact wu) (hz:Zc P t cs:=by infer_instance) (hd:Nat.blt d N=true:=by rfl)
 (k:∀ b a w,St w0 N ((d,ptr b 0)::F') (Asn.blk b cs t::L') a w→wpList P ops Q rest a w):∀ a w,St w0 N F L a w→R a w:=w fun _ _ h=>by
 obtain ⟨z,hz,hc⟩:=hz.h
 exact al h cs hz hc hd k
theorem xb {x:Operand} {v:Value} {t:TypeId} {cs:List Value} (w:(∀ a w,St w0 N F' L' a w→wpList P ops Q (⟨some d,.box t x,ty,pos,aft,none⟩::rest) a w)→∀ a w,St w0 N F L a w→R a w:=by exact wu) (hx:ev F' x=some v:=by exact ex) (hc:Cel v cs:=by infer_instance) (hd:Nat.blt d N=true:=by rfl)
 (k:∀ b a w,St w0 N ((d,ptr b 0)::F') (Asn.blk b cs t::L') a w→wpList P ops Q rest a w):∀ a w,St w0 N F L a w→R a w:=w fun _ _ h=>bx h cs hx hc.h hd k
theorem xs (i:Nat) {t e:TypeId} {x y:Operand} {b k n:Nat} {v:Value} {cs us:List Value} (cs':List Value) (w:(∀ a w,St w0 N F' L' a w→wpList P ops Q (⟨none,.store t x y,ty,pos,aft,none⟩::rest) a w)→∀ a w,St w0 N F L a w→R a w:=by exact wu)
 (hi:L'[i]?=some (Asn.blk b cs e):=by rfl) (hz:Sz P t n:=by infer_instance) (hx:ev F' x=some (ptr b k):=by exact ex) (hy:ev F' y=some v:=by exact ex) (hc:Cel v us:=by infer_instance) (hn:us.length=n:=by rfl) (h1:us.all Value.oneCell'=true:=by rfl) (hf:Nat.ble (k+n) cs.length=true:=by rfl) (hr:spl cs k us=cs':=by rfl)
 (c:∀ a w,St w0 N F' (L'.set i (Asn.blk b cs' e)) a w→wpList P ops Q rest a w):∀ a w,St w0 N F L a w→R a w:=w fun _ _ h=>st h i cs' hi hz.h hx hy hc.h hn h1 hf hr c
theorem xg {j dj:Nat} {want c b g:Bool} {v:Value} (w:(∀ a w,St w0 N F' L' a w→wpList P ops Q (⟨some d,op,ty,pos,aft,some (j,want)⟩::rest) a w)→∀ a w,St w0 N F L a w→R a w:=by exact wu) (hs:g=true→Step P w0 F' L' op (·=v) (fun _=>L'))
 (hj:(ops[j]?).bind (·.dst)=some dj:=by rfl) (hl:look F' dj=some (gv c (.bool b))∨(look F' dj=some (.bool b)∧c=true):=by first | exact .inl rfl | exact .inr ⟨rfl,rfl⟩) (hg:(c && (b == want))=g:=by first | exact g_t | exact g_f | exact g_ct | exact g_cf) (hd:Nat.blt d N=true:=by rfl)
 (k:∀ a w,St w0 N ((d,gv g v)::F') L' a w→wpList P ops Q rest a w):∀ a w,St w0 N F L a w→R a w:=w fun _ _ h=>by
 rcases hl with hl | ⟨hl,rfl⟩
 · exact gd h hj hl hg hs hd k
 · exact gd (c:=true) h hj hl hg hs hd k
theorem ai {c:Operand} {x y:Code} {b:Bool} (w:(∀ a w,St w0 N F' L' a w→(Code.cond c x y).wp P Q a w)→∀ a w,St w0 N F L a w→R a w:=by exact wu) (hc:ev F' c=some (.bool b):=by rfl) (ht:∀ a w,St w0 N F' L' a w→b=true→x.wp P Q a w) (hf:∀ a w,St w0 N F' L' a w→b=false→y.wp P Q a w) :
 ∀ a w,St w0 N F L a w→R a w:=w fun a w h=>ku h hc (ht a w h) (hf a w h)
end
section
variable {P:Program} {w0:World} {ol:List Oper} {D:List DOp} {H:List Hist}
def OB (P:Program) (w0:World) (ol:List Oper) (D:List DOp) (H:List Hist) (os:List Oper) (ds:List DOp) (i:Nat) (G G2:List (Nat×Value)):Prop:=Obl P w0 ol D H os ds i (fun _=>G)∧∀ ξ,endF os ds i ξ G=G2
variable {os:List Oper} {ds:List DOp} {i t:Nat} {G G2:List (Nat×Value)} {op:Op} {ty:TypeId} {pos:String} {aft:Array Edge} {g:Option (Nat×Bool)} {v:Value} {acc:List Nat}
theorem o_s (h:∀ ξ,ObS P w0 ol H (fun _=>G) ξ i ⟨some t,op,ty,pos,aft,g⟩ ⟨.det v,acc⟩) (k:OB P w0 ol D H os ds (i+1) ((t,v)::G) G2):OB P w0 ol D H (⟨some t,op,ty,pos,aft,g⟩::os) (⟨.det v,acc⟩::ds) i G G2 :=
 ⟨⟨fun ξ _=>h ξ,k.1⟩,k.2⟩
theorem o_n (h:∀ ξ,ObS P w0 ol H (fun _=>G) ξ i ⟨none,op,ty,pos,aft,g⟩ ⟨.det v,acc⟩) (k:OB P w0 ol D H os ds (i+1) G G2):OB P w0 ol D H (⟨none,op,ty,pos,aft,g⟩::os) (⟨.det v,acc⟩::ds) i G G2 :=
 ⟨⟨fun ξ _=>h ξ,k.1⟩,k.2⟩
theorem o_e:OB P w0 ol D H [] [] i G G:=⟨trivial,fun _=>rfl⟩
section
variable {ξ:Nat→Value} {GG:(Nat→Value)→List (Nat×Value)} {tl:TypeId} {xl:Operand} {dst:Option Tmp} {b k:Nat} {sv:Value} {q:Nat} {e:TypeId} {cs:List Value}
def LD (P:Program) (H:List Hist) (ξ:Nat→Value) (i:Nat) (acc:List Nat) (b k:Nat) (t:TypeId) (v:Value):Prop:=∃ cs e,dJ H acc i ξ=[Asn.blk b cs e]∧dJ H acc (i+1) (upd ξ i v)=[Asn.blk b cs e]∧L1 P cs e k t v
theorem ld (j:Nat) (h1:dJ H [j] i ξ=[Asn.blk b cs e]) (h2:dJ H [j] (i+1) (upd ξ i v)=[Asn.blk b cs e]) (h3:L1 P cs e k tl v):LD P H ξ i [j] b k tl v:=⟨cs,e,h1,h2,h3⟩
def LE (P:Program) (H:List Hist) (ξ:Nat→Value) (i:Nat) (acc:List Nat) (sv:Value) (q:Nat) (t:TypeId) (v:Value):Prop:=∃ (α:Type) (_:Cod α) (xs:List α) (e:TypeId),dJ H acc i ξ=[Asn.row e sv xs]∧dJ H acc (i+1) (upd ξ i v)=[Asn.row e sv xs]∧LR P xs e q t v
theorem le_ (j:Nat) {α:Type} [c:Cod α] {xs:List α} (h1:dJ H [j] i ξ=[Asn.row e sv xs]) (h2:dJ H [j] (i+1) (upd ξ i v)=[Asn.row e sv xs]) (h3:LR P xs e q tl v):LE P H ξ i [j] sv q tl v:=⟨α,c,xs,e,h1,h2,h3⟩
theorem ob_l (hx:ev (g7 (GG ξ) (fB (.load tl xl))) xl=some (ptr b k)) (h:LD P H ξ i acc b k tl v):ObS P w0 ol H GG ξ i ⟨dst,.load tl xl,ty,pos,aft,none⟩ ⟨.det v,acc⟩:=by
 obtain ⟨cs,e,h1,h2,h3⟩:=h
 exact jB _ h1 h2 (h3 w0 _ _ b hx)
theorem ob_e (hx:ev (g7 (GG ξ) (fB (.load tl xl))) xl=some (sel sv q)) (h:LE P H ξ i acc sv q tl v):ObS P w0 ol H GG ξ i ⟨dst,.load tl xl,ty,pos,aft,none⟩ ⟨.det v,acc⟩:=by
 obtain ⟨α,c,xs,e,h1,h2,h3⟩:=h
 exact jB _ h1 h2 (h3 w0 _ _ sv hx)
def LG (P:Program) (H:List Hist) (ξ:Nat→Value) (i:Nat) (acc:List Nat) (b k:Nat) (t:TypeId) (v:Value):Prop:=∃ cs e,dJ H acc i ξ=[Asn.blk b cs e]∧(acc.all fun e=>match H[e]? with | some h=>h.steps.all fun p=>!(Nat.beq p.1 i) | none=>true)=true∧L1 P cs e k t v
theorem lg (j:Nat) (h1:dJ H [j] i ξ=[Asn.blk b cs e]) (h2:([j].all fun e=>match H[e]? with | some h=>h.steps.all fun p=>!(Nat.beq p.1 i) | none=>true)=true) (h3:L1 P cs e k tl v):LG P H ξ i [j] b k tl v:=⟨cs,e,h1,h2,h3⟩
variable {j:Nat} {c g c' want:Bool}
theorem ob_lg (hl:look (GG ξ) (((ol[j]?).bind (·.dst)).getD 0)=some (gv c (.bool g))∨(look (GG ξ) (((ol[j]?).bind (·.dst)).getD 0)=some (.bool g)∧c=true)) (hd:((ol[j]?).bind (·.dst)).isSome=true) (hg:(c && (g == want))=c') (hx:c'=true→ev (g7 (GG ξ) (fB (.load tl xl))) xl=some (ptr b k)) (h:LG P H ξ i acc b k tl v) :
 ObS P w0 ol H GG ξ i ⟨dst,.load tl xl,ty,pos,aft,some (j,want)⟩ ⟨.det (gv c' v),acc⟩:=by
 obtain ⟨cs,e,h1,h2,h3⟩:=h
 rcases hl with hl | ⟨hl,rfl⟩
 · exact k7 _ h1 h2 hl hd hg fun hg=>(h3 w0 _ _ b (hx hg)).step
 · exact k7 (c:=true) _ h1 h2 hl hd hg fun hg=>(h3 w0 _ _ b (hx hg)).step
def LF (P:Program) (H:List Hist) (ξ:Nat→Value) (i:Nat) (acc:List Nat) (sv:Value) (q:Nat) (t:TypeId) (v:Value) (c:Bool):Prop:=∃ (α:Type) (_:Cod α) (xs:List α) (e:TypeId),dJ H acc i ξ=[Asn.row e sv xs]∧(acc.all fun e=>match H[e]? with | some h=>h.steps.all fun p=>!(Nat.beq p.1 i) | none=>true)=true∧(c=true→LR P xs e q t v)
theorem lf (j:Nat) {α:Type} [co:Cod α] {xs:List α} (h1:dJ H [j] i ξ=[Asn.row e sv xs]) (h2:([j].all fun e=>match H[e]? with | some h=>h.steps.all fun p=>!(Nat.beq p.1 i) | none=>true)=true) (h3:c=true→LR P xs e q tl v):LF P H ξ i [j] sv q tl v c:=⟨α,co,xs,e,h1,h2,h3⟩
theorem ob_lf (hl:look (GG ξ) (((ol[j]?).bind (·.dst)).getD 0)=some (gv c (.bool g))∨(look (GG ξ) (((ol[j]?).bind (·.dst)).getD 0)=some (.bool g)∧c=true)) (hd:((ol[j]?).bind (·.dst)).isSome=true) (hg:(c && (g == want))=c') (hx:c'=true→ev (g7 (GG ξ) (fB (.load tl xl))) xl=some (sel sv q)) (h:LF P H ξ i acc sv q tl v c') :
 ObS P w0 ol H GG ξ i ⟨dst,.load tl xl,ty,pos,aft,some (j,want)⟩ ⟨.det (gv c' v),acc⟩:=by
 obtain ⟨α,co,xs,e,h1,h2,h3⟩:=h
 rcases hl with hl | ⟨hl,rfl⟩
 · exact k7 _ h1 h2 hl hd hg fun hg=>(h3 hg w0 _ _ sv (hx hg)).step
 · exact k7 (c:=true) _ h1 h2 hl hd hg fun hg=>(h3 hg w0 _ _ sv (hx hg)).step
def LS (P:Program) (H:List Hist) (ξ:Nat→Value) (i:Nat) (acc:List Nat) (b k:Nat) (t:TypeId) (u:Value):Prop:=∃ cs e cs' us n,dJ H acc i ξ=[Asn.blk b cs e]∧dJ H acc (i+1) (upd ξ i undef)=[Asn.blk b cs' e]∧(∀ w,(sizeOf t).run P w=.ok n w)∧u.cells.toList=us∧us.length=n∧us.all Value.oneCell'=true∧Nat.ble (k+n) cs.length=true∧spl cs k us=cs'
theorem ls_ (j:Nat) {cs' us:List Value} {u:Value} {n:Nat} (h1:dJ H [j] i ξ=[Asn.blk b cs e]) (h2:dJ H [j] (i+1) (upd ξ i undef)=[Asn.blk b cs' e]) [hz:Sz P tl n] [hc:Cel u us] (hn:us.length=n) (ho:us.all Value.oneCell'=true) (hf:Nat.ble (k+n) cs.length=true) (hr:spl cs k us=cs'):LS P H ξ i [j] b k tl u:=⟨cs,e,cs',us,n,h1,h2,hz.h,hc.h,hn,ho,hf,hr⟩
theorem ob_st {yl:Operand} {u:Value} (hx:ev (g7 (GG ξ) (fB (.store tl xl yl))) xl=some (ptr b k)) (hy:ev (g7 (GG ξ) (fB (.store tl xl yl))) yl=some u) (h:LS P H ξ i acc b k tl u):ObS P w0 ol H GG ξ i ⟨dst,.store tl xl yl,ty,pos,aft,none⟩ ⟨.det undef,acc⟩:=by
 obtain ⟨cs,e,cs',us,n,h1,h2,h3,h4,h5,h6,h7,h8⟩:=h
 exact lS _ _ h1 h2 (qK h3 hx hy h4 h5 h6 h7 h8)
end
section
variable {ξ:Nat→Value} {GG:(Nat→Value)→List (Nat×Value)} {dst:Option Tmp}
theorem pS (j:Nat) {t:TypeId} {cs:List Value} [hz:Zc P t cs] (hA:dJ H [j] i ξ=[.emp]) (hA':∀ b,dJ H [j] (i+1) (upd ξ i (ptr b 0))=[Asn.blk b cs t]):ObS P w0 ol H GG ξ i ⟨dst,.alloc t,ty,pos,aft,none⟩ ⟨.nd (.one i fun v=>∃ b,v=ptr b 0),[j]⟩:=by
 obtain ⟨z,hz,hc⟩:=hz.h
 refine my (ψ:=fun v=>∃ b,v=ptr b 0) (B:=fun v=>[Asn.blk (bR v) cs t]) [.emp] hA (fun v hv=>?_) (fun v hv=>?_) (jh (gO hz hc))
 · obtain ⟨b,rfl⟩:=hv; exact hA' b
 · show ∃ b,upd ξ i v i=ptr b 0
   rw [bt]; exact hv
theorem pQ (j:Nat) {q:Nat} {t e:TypeId} {x y:Operand} {u:Value} {cs us:List Value} {n:Nat} (hb:∃ b,ξ q=ptr b 0) (hx:ev (g7 (GG ξ) (fB (.store t x y))) x=some (ξ q)) (hy:ev (g7 (GG ξ) (fB (.store t x y))) y=some u) [hz:Sz P t n] [hc:Cel u us]
 (hA:dJ H [j] i ξ=[Asn.blk (bR (ξ q)) cs e]) (hA':dJ H [j] (i+1) (upd ξ i undef)=[Asn.blk (bR (ξ q)) us e]) (hn:us.length=n) (ho:us.all Value.oneCell'=true) (hf:cs.length=n):ObS P w0 ol H GG ξ i ⟨dst,.store t x y,ty,pos,aft,none⟩ ⟨.det undef,[j]⟩:=by
 obtain ⟨b,hb⟩:=hb
 rw [hb] at hx hA hA'
 exact lS _ _ hA hA' (qK hz.h hx hy hc.h hn ho (by rw [hf,Nat.zero_add]; exact Nat.ble_self_eq_true n) (by simp [spl,hn,hf]))
end
theorem oA {R:(Nat→Value)→Prop} {S:(Nat→Value)→Prop} (h:∀ ξ,S ξ):∀ ξ,R ξ→S ξ:=fun ξ _=>h ξ
theorem obA {p:Prop} (h:p:=by
 intro ξ
 first | (apply ob_l; exact ex; (first | exact ld 0 rfl rfl l1A | exact ld 1 rfl rfl l1A | exact ld 2 rfl rfl l1A | exact ld 3 rfl rfl l1A | exact ld 4 rfl rfl l1A | exact ld 5 rfl rfl l1A | exact ld 6 rfl rfl l1A | exact ld 7 rfl rfl l1A | exact ld 8 rfl rfl l1A | exact ld 9 rfl rfl l1A | exact ld 10 rfl rfl l1A | exact ld 11 rfl rfl l1A)) | (apply ob_e; exact ex; (first | exact le_ 0 rfl rfl lrA | exact le_ 1 rfl rfl lrA | exact le_ 2 rfl rfl lrA | exact le_ 3 rfl rfl lrA | exact le_ 4 rfl rfl lrA | exact le_ 5 rfl rfl lrA | exact le_ 6 rfl rfl lrA | exact le_ 7 rfl rfl lrA | exact le_ 8 rfl rfl lrA)) | exact bk rdA | exact oh (acc:=[]) rfl rfl rfl rfl (fun hg=>rdA) | exact og2 (acc:=[]) rfl rfl rfl rfl (fun hg=>Rd.step rdA) | exact og3 (acc:=[]) rfl rfl rfl rfl (fun hg=>Rd.step rdA) | exact og4 (acc:=[]) rfl rfl rfl rfl (fun hg=>Rd.step rdA) | (apply ob_lg; (first | exact .inl rfl | exact .inr ⟨rfl,rfl⟩); exact rfl; (first | exact g_t | exact g_f | exact g_ct | exact g_cf); exact fun hg=>ex; (first | exact lg 0 rfl rfl l1A | exact lg 1 rfl rfl l1A | exact lg 2 rfl rfl l1A | exact lg 3 rfl rfl l1A | exact lg 4 rfl rfl l1A | exact lg 5 rfl rfl l1A | exact lg 6 rfl rfl l1A | exact lg 7 rfl rfl l1A | exact lg 8 rfl rfl l1A)) | (apply ob_lf; (first | exact .inl rfl | exact .inr ⟨rfl,rfl⟩); exact rfl; (first | exact g_t | exact g_f | exact g_ct | exact g_cf); exact fun hg=>ex; (first | exact lf 0 rfl rfl (fun hg=>lrA) | exact lf 1 rfl rfl (fun hg=>lrA) | exact lf 2 rfl rfl (fun hg=>lrA) | exact lf 3 rfl rfl (fun hg=>lrA) | exact lf 4 rfl rfl (fun hg=>lrA) | exact lf 5 rfl rfl (fun hg=>lrA) | exact lf 6 rfl rfl (fun hg=>lrA) | exact lf 7 rfl rfl (fun hg=>lrA) | exact lf 8 rfl rfl (fun hg=>lrA))) | (apply ob_st; exact ex; exact ex; (first | exact ls_ 0 rfl rfl rfZ rfZ rfZ rfZ | exact ls_ 1 rfl rfl rfZ rfZ rfZ rfZ | exact ls_ 2 rfl rfl rfZ rfZ rfZ rfZ | exact ls_ 3 rfl rfl rfZ rfZ rfZ rfZ | exact ls_ 4 rfl rfl rfZ rfZ rfZ rfZ | exact ls_ 5 rfl rfl rfZ rfZ rfZ rfZ | exact ls_ 6 rfl rfl rfZ rfZ rfZ rfZ | exact ls_ 7 rfl rfl rfZ rfZ rfZ rfZ | exact ls_ 8 rfl rfl rfZ rfZ rfZ rfZ | exact ls_ 9 rfl rfl rfZ rfZ rfZ rfZ | exact ls_ 10 rfl rfl rfZ rfZ rfZ rfZ | exact ls_ 11 rfl rfl rfZ rfZ rfZ rfZ))):p:=h
theorem oE (w:OB P w0 ol D H os ds i G G2:=by
 repeat (first | exact o_e | (apply o_s; exact obA) | (apply o_n; exact obA))):OB P w0 ol D H os ds i G G2:=w
section
variable {G':List (Nat×Value)} {os':List Oper} {ds':List DOp} {i':Nat}
theorem owA {p:Prop} (h:p:=by
 intro k
 repeat (first | (apply o_s; exact obA) | (apply o_n; exact obA))
 exact k):p:=h
theorem oK {f:FuncId} {vs:List Value} {p:Prop} (ct:∀ w,Calls P f vs.toArray w (dh w v p)) (w:OB P w0 ol D H (⟨some t,op,ty,pos,aft,none⟩::os') (⟨.det v,[]⟩::ds') i' G' G2→OB P w0 ol D H os ds i G G2:=by exact owA) (he:Ent P (g7 G' (fB op)) op f vs:=by exact enA)
 (k:OB P w0 ol D H os' ds' (i'+1) ((t,v)::G') G2):OB P w0 ol D H os ds i G G2:=w (o_s (fun _=>i0 (fq he (kk ct))) k)
theorem oG {f:FuncId} {vs:List Value} {p:Prop} {j:Nat} {c want b g:Bool} (ct:g=true→∀ w,Calls P f vs.toArray w (dh w v p)) (w:OB P w0 ol D H (⟨some t,op,ty,pos,aft,some (j,want)⟩::os') (⟨.det (gv g v),[]⟩::ds') i' G' G2→OB P w0 ol D H os ds i G G2:=by exact owA)
 (hl:look G' (((ol[j]?).bind (·.dst)).getD 0)=some (gv c (.bool b))∨(look G' (((ol[j]?).bind (·.dst)).getD 0)=some (.bool b)∧c=true):=by first | exact .inl rfl | exact .inr ⟨rfl,rfl⟩) (hd:((ol[j]?).bind (·.dst)).isSome=true:=by rfl) (hg:(c && (b == want))=g:=by first | exact g_t | exact g_f | exact g_ct | exact g_cf)
 (he:g=true→Ent P (g7 G' (fB op)) op f vs:=by intro hg; exact enA)
 (k:OB P w0 ol D H os' ds' (i'+1) ((t,gv g v)::G') G2):OB P w0 ol D H os ds i G G2:=w (o_s (fun _=>by
   rcases hl with hl | ⟨hl,rfl⟩
   · exact k7 [] rfl rfl hl hd hg (fun e=>fq (he e) (kk (ct e)))
   · exact k7 (c:=true) [] rfl rfl hl hd hg (fun e=>fq (he e) (kk (ct e)))) k)
theorem oY (w:OB P w0 ol D H (⟨none,op,ty,pos,aft,g⟩::os') (⟨.det v,acc⟩::ds') i' G' G2→OB P w0 ol D H os ds i G G2:=by exact owA) (h:∀ ξ,ObS P w0 ol H (fun _=>G') ξ i' ⟨none,op,ty,pos,aft,g⟩ ⟨.det v,acc⟩)
 (k:OB P w0 ol D H os' ds' (i'+1) G' G2):OB P w0 ol D H os ds i G G2:=w (o_n h k)
theorem oX (w:OB P w0 ol D H (⟨some t,op,ty,pos,aft,g⟩::os') (⟨.det v,acc⟩::ds') i' G' G2→OB P w0 ol D H os ds i G G2:=by exact owA) (h:∀ ξ,ObS P w0 ol H (fun _=>G') ξ i' ⟨some t,op,ty,pos,aft,g⟩ ⟨.det v,acc⟩)
 (k:OB P w0 ol D H os' ds' (i'+1) ((t,v)::G') G2):OB P w0 ol D H os ds i G G2:=w (o_s h k)
end
end
section
variable {P:Program} {w0:World} {N:Nat} {F F':List (Nat×Value)} {L L':List Asn} {ol:List Oper} {D:List DOp} {Q:Exit→Act→World→Prop} {R:Act→World→Prop} {id:Nat} {G2:List (Nat×Value)}
theorem hLA {p:Prop} (h:p:=by
 intro ξ
 simp only [List.map_cons,List.map_nil,Hist.at,List.foldl_cons,List.foldl_nil,cond_true,DF.con]
 try rfl):p:=h
theorem dr1 {H:List Hist} {L2:List Asn} (w:(∀ a w,St w0 N F' L' a w→(Code.region id ol.toArray true).wp P Q a w)→∀ a w,St w0 N F L a w→R a w:=by exact wu) (hL:H.map (·.init)=L':=by rfl) (hob:OB P w0 ol D H ol D 0 F' G2) (hm:P.follows .mixedOrders=true:=by exact mixed)
 (hc:(chk ol D H && D.all (fun d=>sr d.acc) && wf ol N)=true:=by kernel_rfl) (hL2:∀ ξ,(H.map fun h=>h.at (fun _=>true) ξ)=L2:=by exact hLA) (k:∀ a w,St w0 N G2 L2 a w→Q .normal a w):∀ a w,St w0 N F L a w→R a w:=w fun a w h =>
 fU hm D H h hL hc hob.1 fun ξ a w _ h=>k a w (by rw [hob.2 ξ,hL2 ξ] at h; exact h)
theorem dr0 (w:(∀ a w,St w0 N F' L' a w→(Code.region id ol.toArray true).wp P Q a w)→∀ a w,St w0 N F L a w→R a w:=by exact wu) (hob:OB P w0 ol D (L'.map fun r=>⟨r,[]⟩) ol D 0 F' G2) (hm:P.follows .mixedOrders=true:=by exact mixed)
 (hc:(chk ol D (L'.map fun r=>⟨r,[]⟩) && D.all (fun d=>sr d.acc) && wf ol N)=true:=by kernel_rfl) (k:∀ a w,St w0 N G2 L' a w→Q .normal a w):∀ a w,St w0 N F L a w→R a w:=w fun a w h =>
 fU hm D (L'.map fun r=>⟨r,[]⟩) h (by rw [List.map_map]; exact List.map_id _) hc hob.1 fun ξ a w _ h=>k a w (by
  rw [hob.2 ξ,List.map_map] at h
  have:(List.map ((fun h=>Hist.at h (fun _=>true) ξ) ∘ fun r=>⟨r,[]⟩) L')=L':=List.map_id _
  rw [this] at h
  exact h)
end
attribute [irreducible] OB
end Go.Sx
namespace Go.Sx
open Go Go.RowKit Go.Proofs
set_option maxRecDepth 100000
instance yAxK_24:Sz Tryz.prog 3 1:=⟨Tryz.sizeOf3⟩
instance yAxK_25:Sz Tryz.prog 4 1:=⟨Tryz.sizeOf4⟩
instance yAxK_26:Sz Tryz.prog 5 1:=⟨Tryz.sizeOf5⟩
instance yAxK_27:Sz Tryz.prog 9 1:=⟨Tryz.sizeOf9⟩
instance yAxK_28:Sz Tryz.prog 27 2:=⟨Tryz.sizeOf27⟩
instance yAxK_29:Sz Tryz.prog 29 4:=⟨Tryz.sizeOf29⟩
instance yAxK_30:Sz Tryz.prog 86 1:=⟨Tryz.sizeOf86⟩
instance yAxK_31:Sz Tryz.prog 72 12:=⟨Tryz.sizeOf72⟩
instance yAxK_32:Sz Tryz.prog 46 9:=⟨Tryz.sizeOf46⟩
instance yAxK_33:Sz Tryz.prog 163 16:=⟨Tryz.sizeOf163⟩
instance yAxK_34:Sz Tryz.prog 192 1:=⟨Tryz.sizeOf192⟩
instance yAxK_35:Sz Tryz.prog 74 20:=⟨Tryz.sizeOf74⟩
instance yAxK_36:Sz Tryz.prog 56 1:=⟨Tryz.sizeOf56⟩
instance yAxK_37:Sz Tryz.prog 88 32:=⟨Tryz.sizeOf88⟩
instance yAxK_38:Sz Tryz.prog 216 1:=⟨Tryz.sizeOf216⟩
instance yAxK_39:Sz Tryz.prog 204 1:=⟨Tryz.sizeOf204⟩
instance yAxK_40:Sz Tryz.prog 132 44:=⟨Tryz.sizeOf132⟩
instance yAxK_41:Sz Tryz.prog 292 36:=⟨Tryz.sizeOf292⟩
instance yAxK_42:Sz Tryz.prog 199 10:=⟨Tryz.sizeOf199⟩
instance yAxK_43:Sz Tryz.prog 330 2:=⟨Tryz.sizeOf330⟩
instance yAxK_44:Sz Tryz.prog 332 12:=⟨Tryz.sizeOf332⟩
instance yAxK_45:Sz Tryz.prog 343 1:=⟨Tryz.sizeOf343⟩
instance yAxK_46:Ag Tryz.prog 3 false:=⟨Tryz.isAgg3⟩
instance yAxK_47:Ag Tryz.prog 4 false:=⟨Tryz.isAgg4⟩
instance yAxK_48:Ag Tryz.prog 5 false:=⟨Tryz.isAgg5⟩
instance yAxK_49:Ag Tryz.prog 9 false:=⟨Tryz.isAgg9⟩
instance yAxK_50:Ag Tryz.prog 27 true:=⟨Tryz.isAgg27⟩
instance yAxK_51:Ag Tryz.prog 29 true:=⟨Tryz.isAgg29⟩
instance yAxK_52:Ag Tryz.prog 86 false:=⟨Tryz.isAgg86⟩
instance yAxK_53:Ag Tryz.prog 72 true:=⟨Tryz.isAgg72⟩
instance yAxK_54:Ag Tryz.prog 46 true:=⟨Tryz.isAgg46⟩
instance yAxK_55:Ag Tryz.prog 163 true:=⟨Tryz.isAgg163⟩
instance yAxK_56:Ag Tryz.prog 192 false:=⟨Tryz.isAgg192⟩
instance yAxK_57:Ag Tryz.prog 74 true:=⟨Tryz.isAgg74⟩
instance yAxK_58:Ag Tryz.prog 56 false:=⟨Tryz.isAgg56⟩
instance yAxK_59:Ag Tryz.prog 88 true:=⟨Tryz.isAgg88⟩
instance yAxK_60:Ag Tryz.prog 216 false:=⟨Tryz.isAgg216⟩
instance yAxK_61:Ag Tryz.prog 204 false:=⟨Tryz.isAgg204⟩
instance yAxK_62:Ag Tryz.prog 132 true:=⟨Tryz.isAgg132⟩
instance yAxK_63:Ag Tryz.prog 292 true:=⟨Tryz.isAgg292⟩
instance yAxK_64:Ag Tryz.prog 199 true:=⟨Tryz.isAgg199⟩
instance yAxK_65:Ag Tryz.prog 330 true:=⟨Tryz.isAgg330⟩
instance yAxK_66:Ag Tryz.prog 332 true:=⟨Tryz.isAgg332⟩
instance yAxK_67:Ag Tryz.prog 343 false:=⟨Tryz.isAgg343⟩
instance yAxK_68:Fl Tryz.prog 27 0 4 0:=⟨⟨_,_,uu27,rfl,rfl,rfl⟩⟩
instance yAxK_69:Fl Tryz.prog 27 1 9 1:=⟨⟨_,_,uu27,rfl,rfl,rfl⟩⟩
instance yAxK_70:Fl Tryz.prog 29 0 27 0:=⟨⟨_,_,uu29,rfl,rfl,rfl⟩⟩
instance yAxK_71:Fl Tryz.prog 29 1 27 2:=⟨⟨_,_,uu29,rfl,rfl,rfl⟩⟩
instance yAxK_72:Un Tryz.prog 86 (.slice 88):=⟨Tryz.runUnderlying86⟩
instance yAxK_73:Fl Tryz.prog 72 0 29 0:=⟨⟨_,_,uu72,rfl,rfl,rfl⟩⟩
instance yAxK_74:Fl Tryz.prog 72 1 29 4:=⟨⟨_,_,uu72,rfl,rfl,rfl⟩⟩
instance yAxK_75:Fl Tryz.prog 72 2 29 8:=⟨⟨_,_,uu72,rfl,rfl,rfl⟩⟩
instance yAxK_76:Un Tryz.prog 77 (.slice 46):=⟨Tryz.runUnderlying77⟩
instance yAxK_77:Fl Tryz.prog 46 0 29 0:=⟨⟨_,_,uu46,rfl,rfl,rfl⟩⟩
instance yAxK_78:Fl Tryz.prog 46 1 29 4:=⟨⟨_,_,uu46,rfl,rfl,rfl⟩⟩
instance yAxK_79:Fl Tryz.prog 46 2 4 8:=⟨⟨_,_,uu46,rfl,rfl,rfl⟩⟩
instance yAxK_80:Fl Tryz.prog 163 0 29 0:=⟨⟨_,_,uu163,rfl,rfl,rfl⟩⟩
instance yAxK_81:Fl Tryz.prog 163 1 29 4:=⟨⟨_,_,uu163,rfl,rfl,rfl⟩⟩
instance yAxK_82:Fl Tryz.prog 163 2 29 8:=⟨⟨_,_,uu163,rfl,rfl,rfl⟩⟩
instance yAxK_83:Fl Tryz.prog 163 3 29 12:=⟨⟨_,_,uu163,rfl,rfl,rfl⟩⟩
instance yAxK_84:Un Tryz.prog 192 (.slice 292):=⟨Tryz.runUnderlying192⟩
instance yAxK_85:Fl Tryz.prog 74 0 46 0:=⟨⟨_,_,uu74,rfl,rfl,rfl⟩⟩
instance yAxK_86:Fl Tryz.prog 74 1 46 9:=⟨⟨_,_,uu74,rfl,rfl,rfl⟩⟩
instance yAxK_87:Fl Tryz.prog 74 2 4 18:=⟨⟨_,_,uu74,rfl,rfl,rfl⟩⟩
instance yAxK_88:Fl Tryz.prog 74 3 4 19:=⟨⟨_,_,uu74,rfl,rfl,rfl⟩⟩
instance yAxK_89:Un Tryz.prog 56 (.slice 74):=⟨Tryz.runUnderlying56⟩
instance yAxK_90:Un Tryz.prog 317 (.array 3 29):=⟨Tryz.runUnderlying317⟩
instance yAxK_91:Fl Tryz.prog 88 0 74 0:=⟨⟨_,_,uu88,rfl,rfl,rfl⟩⟩
instance yAxK_92:Fl Tryz.prog 88 1 72 20:=⟨⟨_,_,uu88,rfl,rfl,rfl⟩⟩
instance yAxK_93:Un Tryz.prog 129 (.slice 132):=⟨Tryz.runUnderlying129⟩
instance yAxK_94:Fl Tryz.prog 132 0 74 0:=⟨⟨_,_,uu132,rfl,rfl,rfl⟩⟩
instance yAxK_95:Fl Tryz.prog 132 1 72 20:=⟨⟨_,_,uu132,rfl,rfl,rfl⟩⟩
instance yAxK_96:Fl Tryz.prog 132 2 72 32:=⟨⟨_,_,uu132,rfl,rfl,rfl⟩⟩
instance yAxK_97:Fl Tryz.prog 292 0 74 0:=⟨⟨_,_,uu292,rfl,rfl,rfl⟩⟩
instance yAxK_98:Fl Tryz.prog 292 1 163 20:=⟨⟨_,_,uu292,rfl,rfl,rfl⟩⟩
instance yAxK_99:Fl Tryz.prog 199 0 46 0:=⟨⟨_,_,uu199,rfl,rfl,rfl⟩⟩
instance yAxK_100:Fl Tryz.prog 199 1 4 9:=⟨⟨_,_,uu199,rfl,rfl,rfl⟩⟩
instance yAxK_101:Un Tryz.prog 461 (.array 4 29):=⟨Tryz.runUnderlying461⟩
instance yAxK_102:Un Tryz.prog 329 (.slice 332):=⟨Tryz.runUnderlying329⟩
instance yAxK_103:Un Tryz.prog 224 (.slice 56):=⟨Tryz.runUnderlying224⟩
instance yAxK_104:Un Tryz.prog 330 (.array 2 3):=⟨Tryz.runUnderlying330⟩
instance yAxK_105:Fl Tryz.prog 332 0 199 0:=⟨⟨_,_,uu332,rfl,rfl,rfl⟩⟩
instance yAxK_106:Fl Tryz.prog 332 1 330 10:=⟨⟨_,_,uu332,rfl,rfl,rfl⟩⟩
instance yAxK_107:Un Tryz.prog 338 (.array 8 5):=⟨Tryz.runUnderlying338⟩
instance yAxK_108:Un Tryz.prog 339 (.slice 5):=⟨Tryz.runUnderlying339⟩
instance yAxK_109:Un Tryz.prog 341 (.slice 343):=⟨Tryz.runUnderlying341⟩
instance yAxK_110:Un Tryz.prog 245 (.slice 3):=⟨Tryz.runUnderlying245⟩
instance yAxK_111:Pp Tryz.prog 219:=⟨Tryz.underlying219⟩
instance yAxK_112:Pp Tryz.prog 356:=⟨Tryz.underlying356⟩
instance yAxK_113:Zc Tryz.prog 27 (cI (⟨false,0⟩:GI)):=⟨⟨_,Tryz.zeroValue27,rfl⟩⟩
instance yAxK_114:Zc Tryz.prog 29 (cQ oQ):=⟨⟨_,Tryz.zeroValue29,rfl⟩⟩
instance yAxK_115:Zc Tryz.prog 86 [.slice none 0 0]:=⟨⟨_,Tryz.zeroValue86,rfl⟩⟩
instance yAxK_116:Zc Tryz.prog 72 (cD oD):=⟨⟨_,Tryz.zeroValue72,rfl⟩⟩
instance yAxK_117:Zc Tryz.prog 46 (cR (⟨oQ,oQ,false⟩:GR)):=⟨⟨_,Tryz.zeroValue46,rfl⟩⟩
instance yAxK_118:Zc Tryz.prog 163 (cN (⟨oQ,oQ,oQ,oQ⟩:Ln)):=⟨⟨_,Tryz.zeroValue163,rfl⟩⟩
instance yAxK_119:Zc Tryz.prog 192 [.slice none 0 0]:=⟨⟨_,Tryz.zeroValue192,rfl⟩⟩
instance yAxK_120:Zc Tryz.prog 74 (cV (⟨(⟨oQ,oQ,false⟩:GR),(⟨oQ,oQ,false⟩:GR),false,false⟩:Iv)):=⟨⟨_,Tryz.zeroValue74,rfl⟩⟩
instance yAxK_121:Zc Tryz.prog 88 (cUD (⟨(⟨(⟨oQ,oQ,false⟩:GR),(⟨oQ,oQ,false⟩:GR),false,false⟩:Iv),oD⟩:U Qd)):=⟨⟨_,Tryz.zeroValue88,rfl⟩⟩
instance yAxK_122:Zc Tryz.prog 132 (cBD (⟨(⟨(⟨oQ,oQ,false⟩:GR),(⟨oQ,oQ,false⟩:GR),false,false⟩:Iv),oD,oD⟩:Bt Qd Qd)):=⟨⟨_,Tryz.zeroValue132,rfl⟩⟩
instance yAxK_123:Zc Tryz.prog 292 (cUN (⟨(⟨(⟨oQ,oQ,false⟩:GR),(⟨oQ,oQ,false⟩:GR),false,false⟩:Iv),(⟨oQ,oQ,oQ,oQ⟩:Ln)⟩:U Ln)):=⟨⟨_,Tryz.zeroValue292,rfl⟩⟩
instance yAxK_124:Zc Tryz.prog 199 (cW (⟨(⟨oQ,oQ,false⟩:GR),false⟩:Bd)):=⟨⟨_,Tryz.zeroValue199,rfl⟩⟩
instance yAxK_125:Zc Tryz.prog 330 (cJ (⟨0,0⟩:I2)):=⟨⟨_,Tryz.zeroValue330,rfl⟩⟩
instance yAxK_126:Zc Tryz.prog 332 (cE (⟨(⟨(⟨oQ,oQ,false⟩:GR),false⟩:Bd),0,0⟩:Ev)):=⟨⟨_,Tryz.zeroValue332,rfl⟩⟩
instance yAxK_127:Zc Tryz.prog 338 (flat (List.replicate 8 (0:UInt8))):=⟨⟨_,Tryz.zeroValue338,rfl⟩⟩
instance yAxK_128:Cf Tryz.prog 106:=⟨Tryz.call106⟩
instance yAxK_129:Cf Tryz.prog 172:=⟨Tryz.call172⟩
instance yAxK_130:Cf Tryz.prog 148:=⟨Tryz.call148⟩
instance yAxK_131:Cf Tryz.prog 123:=⟨Tryz.call123⟩
instance yAxK_132:Cf Tryz.prog 180:=⟨Tryz.call180⟩
instance yAxK_133:Cf Tryz.prog 75:=⟨Tryz.call75⟩
instance yAxK_134:Cf Tryz.prog 62:=⟨Tryz.call62⟩
instance yAxK_135:Cf Tryz.prog 167:=⟨Tryz.call167⟩
instance yAxK_136:Cf Tryz.prog 74:=⟨Tryz.call74⟩
instance yAxK_137:Cf Tryz.prog 174:=⟨Tryz.call174⟩
instance yAxK_138:Cf Tryz.prog 45:=⟨Tryz.call45⟩
instance yAxK_139:Cf Tryz.prog 179:=⟨Tryz.call179⟩
instance yAxK_140:Cf Tryz.prog 159:=⟨Tryz.call159⟩
instance yAxK_141:Cf Tryz.prog 30:=⟨Tryz.call30⟩
instance yAxK_142:Cf Tryz.prog 15:=⟨Tryz.call15⟩
instance yAxK_143:Cf Tryz.prog 170:=⟨Tryz.call170⟩
instance yAxK_144:Cf Tryz.prog 132:=⟨Tryz.call132⟩
instance yAxK_145:Cf Tryz.prog 101:=⟨Tryz.call101⟩
instance yAxK_146:Cf Tryz.prog 102:=⟨Tryz.call102⟩
instance yAxK_147:Cf Tryz.prog 204:=⟨Tryz.call204⟩
instance yAxK_148:Cf Tryz.prog 26:=⟨Tryz.call26⟩
instance yAxK_149:Cf Tryz.prog 217:=⟨Tryz.call217⟩
instance yAxK_150:Cf Tryz.prog 199:=⟨Tryz.call199⟩
instance yAxK_151:Cf Tryz.prog 208:=⟨Tryz.call208⟩
instance yAxK_152:Cf Tryz.prog 209:=⟨Tryz.call209⟩
instance yAxK_153:Cf Tryz.prog 210:=⟨Tryz.call210⟩
instance yAxK_154:Cf Tryz.prog 223:=⟨Tryz.call223⟩
instance yAxK_155:Cf Tryz.prog 221:=⟨Tryz.call221⟩
instance yAxK_156:Cf Tryz.prog 81:=⟨Tryz.call81⟩
instance yAxK_157:Cf Tryz.prog 150:=⟨Tryz.call150⟩
instance yAxK_158:Cf Tryz.prog 157:=⟨Tryz.call157⟩
instance yAxK_159:Cf Tryz.prog 197:=⟨Tryz.call197⟩
instance yAxK_160:Cf Tryz.prog 78:=⟨Tryz.call78⟩
instance yAxK_161:Cf Tryz.prog 238:=⟨Tryz.call238⟩
instance yAxK_162:Cf Tryz.prog 152:=⟨Tryz.call152⟩
instance yAxK_163:Cf Tryz.prog 175:=⟨Tryz.call175⟩
instance yAxK_164:Cf Tryz.prog 241:=⟨Tryz.call241⟩
instance yAxK_165:Cf Tryz.prog 59:=⟨Tryz.call59⟩
instance yAxK_166:Cf Tryz.prog 256:=⟨Tryz.call256⟩
instance yAxK_167:Cf Tryz.prog 257:=⟨Tryz.call257⟩
instance yAxK_168:Cf Tryz.prog 83:=⟨Tryz.call83⟩
instance yAxK_169:Cf Tryz.prog 41:=⟨Tryz.call41⟩
instance yAxK_170:Cf Tryz.prog 22:=⟨Tryz.call22⟩
instance yAxK_171:Cf Tryz.prog 135:=⟨Tryz.call135⟩
instance yAxK_172:Cf Tryz.prog 136:=⟨Tryz.call136⟩
instance yAxK_173:Cf Tryz.prog 137:=⟨Tryz.call137⟩
instance yAxK_174:Cf Tryz.prog 151:=⟨Tryz.call151⟩
instance yAxK_175:Cf Tryz.prog 153:=⟨Tryz.call153⟩
instance yAxK_176:Cf Tryz.prog 154:=⟨Tryz.call154⟩
instance yAxK_177:Cf Tryz.prog 155:=⟨Tryz.call155⟩
instance yAxK_178:Cf Tryz.prog 260:=⟨Tryz.call260⟩
instance yAxK_179:Cf Tryz.prog 133:=⟨Tryz.call133⟩
instance yAxK_180:Cf Tryz.prog 134:=⟨Tryz.call134⟩
instance yAxK_181:Cf Tryz.prog 94:=⟨Tryz.call94⟩
instance yAxK_182:Cf Tryz.prog 95:=⟨Tryz.call95⟩
instance yAxK_183:Cf Tryz.prog 96:=⟨Tryz.call96⟩
instance yAxK_184:Cf Tryz.prog 97:=⟨Tryz.call97⟩
instance yAxK_185:Cf Tryz.prog 226:=⟨Tryz.call226⟩
instance yAxK_186:Cf Tryz.prog 234:=⟨Tryz.call234⟩
instance yAxK_187:Cf Tryz.prog 183:=⟨Tryz.call183⟩
instance yAxK_188:Cf Tryz.prog 194:=⟨Tryz.call194⟩
instance yAxK_189:Cf Tryz.prog 218:=⟨Tryz.call218⟩
instance yAxK_190:Cf Tryz.prog 120:=⟨Tryz.call120⟩
instance yAxK_191:Cf Tryz.prog 201:=⟨Tryz.call201⟩
instance yAxK_192:Cf Tryz.prog 202:=⟨Tryz.call202⟩
instance yAxK_193:Cf Tryz.prog 281:=⟨Tryz.call281⟩
instance yAxK_194:Cf Tryz.prog 282:=⟨Tryz.call282⟩
instance yAxK_195:Cf Tryz.prog 198:=⟨Tryz.call198⟩
instance yAxK_196:Cf Tryz.prog 283:=⟨Tryz.call283⟩
instance yAxK_197:Cf Tryz.prog 288:=⟨Tryz.call288⟩
instance yAxK_198:Cf Tryz.prog 184:=⟨Tryz.call184⟩
instance yAxK_199:Cf Tryz.prog 258:=⟨Tryz.call258⟩
instance yAxK_200:Cf Tryz.prog 259:=⟨Tryz.call259⟩
instance yAxK_201:Cf Tryz.prog 290:=⟨Tryz.call290⟩
instance yAxK_202:Cf Tryz.prog 169:=⟨Tryz.call169⟩
instance yAxK_203:Cf Tryz.prog 171:=⟨Tryz.call171⟩
instance yAxK_204:Cf Tryz.prog 80:=⟨Tryz.call80⟩
instance yAxK_205:Cf Tryz.prog 178:=⟨Tryz.call178⟩
instance yAxK_206:Cf Tryz.prog 284:=⟨Tryz.call284⟩
instance yAxK_207:Cf Tryz.prog 285:=⟨Tryz.call285⟩
instance yAxK_208:Cf Tryz.prog 286:=⟨Tryz.call286⟩
instance yAxK_209:Cf Tryz.prog 124:=⟨Tryz.call124⟩
instance yAxK_210:Cf Tryz.prog 245:=⟨Tryz.call245⟩
instance yAxK_211:Cf Tryz.prog 246:=⟨Tryz.call246⟩
instance yAxK_212:Cf Tryz.prog 247:=⟨Tryz.call247⟩
instance yAxK_213:Cf Tryz.prog 248:=⟨Tryz.call248⟩
instance yAxK_214:Cf Tryz.prog 249:=⟨Tryz.call249⟩
instance yAxK_215:Cf Tryz.prog 196:=⟨Tryz.call196⟩
instance yAxK_216:Cf Tryz.prog 250:=⟨Tryz.call250⟩
instance yAxK_217:Cf Tryz.prog 235:=⟨Tryz.call235⟩
instance yAxK_218:Cf Tryz.prog 200:=⟨Tryz.call200⟩
instance yAxK_219:Cf Tryz.prog 203:=⟨Tryz.call203⟩
instance yAxK_220:Cf Tryz.prog 195:=⟨Tryz.call195⟩
instance yAxK_221:Cf Tryz.prog 289:=⟨Tryz.call289⟩
instance yAxK_222:Cf Tryz.prog 267:=⟨Tryz.call267⟩
instance yAxK_223:Cf Tryz.prog 268:=⟨Tryz.call268⟩
instance yAxK_224:Cf Tryz.prog 269:=⟨Tryz.call269⟩
instance yAxK_225:Cf Tryz.prog 219:=⟨Tryz.call219⟩
instance yAxK_226:Cf Tryz.prog 220:=⟨Tryz.call220⟩
instance yAxK_227:Cf Tryz.prog 222:=⟨Tryz.call222⟩
instance yAxK_228:Cf Tryz.prog 224:=⟨Tryz.call224⟩
instance yAxK_229:Cf Tryz.prog 225:=⟨Tryz.call225⟩
instance yAxK_230:Cf Tryz.prog 272:=⟨Tryz.call272⟩
instance yAxK_231:Cf Tryz.prog 273:=⟨Tryz.call273⟩
instance yAxK_232:Cf Tryz.prog 275:=⟨Tryz.call275⟩
instance yAxK_233:Cf Tryz.prog 271:=⟨Tryz.call271⟩
instance yAxK_234:Cf Tryz.prog 325:=⟨Tryz.call325⟩
instance yAxK_235:Cf Tryz.prog 147:=⟨Tryz.call147⟩
instance yAxK_236:Cf Tryz.prog 326:=⟨Tryz.call326⟩
instance yAxK_237:Cf Tryz.prog 327:=⟨Tryz.call327⟩
instance yAxK_238:Cf Tryz.prog 318:=⟨Tryz.call318⟩
instance yAxK_239:Cf Tryz.prog 319:=⟨Tryz.call319⟩
instance yAxK_240:Cf Tryz.prog 320:=⟨Tryz.call320⟩
instance yAxK_241:Cf Tryz.prog 321:=⟨Tryz.call321⟩
instance yAxK_242:Cf Tryz.prog 322:=⟨Tryz.call322⟩
instance yAxK_243:Cf Tryz.prog 228:=⟨Tryz.call228⟩
instance yAxK_244:Cf Tryz.prog 316:=⟨Tryz.call316⟩
instance yAxK_245:Cf Tryz.prog 295:=⟨Tryz.call295⟩
instance yAxK_246:Cf Tryz.prog 270:=⟨Tryz.call270⟩
instance yAxK_247:Cf Tryz.prog 274:=⟨Tryz.call274⟩
instance yAxK_248:Cf Tryz.prog 276:=⟨Tryz.call276⟩
instance yAxK_249:Cf Tryz.prog 277:=⟨Tryz.call277⟩
instance yAxK_250:Cf Tryz.prog 307:=⟨Tryz.call307⟩
instance yAxK_251:Cf Tryz.prog 308:=⟨Tryz.call308⟩
instance yAxK_252:Cf Tryz.prog 287:=⟨Tryz.call287⟩
instance yAxK_253:Cf Tryz.prog 310:=⟨Tryz.call310⟩
instance yAxK_254:Cf Tryz.prog 311:=⟨Tryz.call311⟩
instance yAxK_255:Cf Tryz.prog 349:=⟨Tryz.call349⟩
instance yAxK_256:Cf Tryz.prog 348:=⟨Tryz.call348⟩
instance yAxK_257:Cf Tryz.prog 331:=⟨Tryz.call331⟩
instance yAxK_258:Cf Tryz.prog 332:=⟨Tryz.call332⟩
instance yAxK_259:Cf Tryz.prog 335:=⟨Tryz.call335⟩
instance yAxK_260:Cf Tryz.prog 323:=⟨Tryz.call323⟩
instance yAxK_261:Cf Tryz.prog 324:=⟨Tryz.call324⟩
instance yAxK_262:Cf Tryz.prog 367:=⟨Tryz.call367⟩
instance yAxK_263:Cf Tryz.prog 358:=⟨Tryz.call358⟩
instance yAxK_264:Cf Tryz.prog 373:=⟨Tryz.call373⟩
instance yAxK_265:Cf Tryz.prog 402:=⟨Tryz.call402⟩
instance yAxK_266:Cf Tryz.prog 403:=⟨Tryz.call403⟩
instance yAxK_267:Cf Tryz.prog 404:=⟨Tryz.call404⟩
instance yAxK_268:Cf Tryz.prog 405:=⟨Tryz.call405⟩
instance yAxK_269:Cf Tryz.prog 406:=⟨Tryz.call406⟩
instance yAxK_270:Cf Tryz.prog 408:=⟨Tryz.call408⟩
instance yAxK_271:Cf Tryz.prog 409:=⟨Tryz.call409⟩
instance yAxK_272:Sh Tryz.prog 3 GR vR:=⟨trivial⟩
instance yAxK_273:Sh Tryz.prog 4 Qd vD:=⟨trivial⟩
instance yAxK_274:Sh Tryz.prog 27 GI vI:=⟨trivial⟩
instance yAxK_275:Sh Tryz.prog 29 GQ vQ:=⟨trivial⟩
instance yAxK_276:Sh Tryz.prog 72 Qd vD:=⟨trivial⟩
instance yAxK_277:Sh Tryz.prog 46 GR vR:=⟨trivial⟩
instance yAxK_278:Sh Tryz.prog 74 Iv vV:=⟨trivial⟩
instance yAxK_279:Sh Tryz.prog 88 (U Qd) vUD:=⟨trivial⟩
instance yAxK_280:Sh Tryz.prog 199 Bd vW:=⟨trivial⟩
instance yAxK_281:Sh Tryz.prog 332 Ev vE:=⟨trivial⟩
instance yAxK_282:Ub Tryz.prog 4:=⟨Tryz.underlying4⟩
end Go.Sx
