import Derived.Test.YtbenbmdkhcfcfaaGreatDoorA7
import Derived.Test.YtbenbmdkhcfcfaaGreatDoorProg
set_option linter.unusedVariables false
set_option linter.unusedSimpArgs false
open Go.Proofs.Tryz renaming prog → zP, runUnderlying25 → uu25, runUnderlying27 → uu27, runUnderlying53 → uu53, runUnderlying71 → uu71, runUnderlying79 → uu79, runUnderlying86 → uu86, runUnderlying126 → uu126, runUnderlying169 → uu169, runUnderlying176 → uu176, runUnderlying182 → uu182, runUnderlying199 → uu199, runUnderlying206 → uu206, runUnderlying264 → uu264, runUnderlying321 → uu321
namespace Go.Sx
open Go Go.RowKit
class Sz (P:Program) (t:TypeId) (n:outParam Nat):Prop where h:∀ w,(sizeOf t).run P w=.ok n w
class Un (P:Program) (t:TypeId) (d:outParam TypeDesc):Prop where h:∀ w,(underlying t).run P w=.ok d w
class Fl (P:Program) (s:TypeId) (f:Nat) (ft:outParam TypeId) (off:outParam Nat):Prop where h:∃ (fs:Array Field) (fld:Field),(∀ w,(underlying s).run P w=.ok (.struct fs) w)∧fs[f]?=some fld∧fld.type=ft∧fld.offset=off
class Ag (P:Program) (t:TypeId) (b:outParam Bool):Prop where h:∀ w,(isAgg t).run P w=.ok b w
class Zc (P:Program) (t:TypeId) (cs:outParam (List Value)):Prop where h:∃ z:Value,(∀ w,(zeroValue t).run P w=.ok z w)∧z.cells.toList=cs
class Cf (P:Program) (f:FuncId):Prop where h:∀ args w,(callFunc f args).run P w=.ok (.enter f args) w
class Mt (P:Program) (T:TypeId) (u:Value) (name:String) (f:outParam FuncId):Prop where h:∀ w,(method (P.types.size+Made.depth) T u name).run P w=.ok (f,u) w
class Nl (P:Program) (T:TypeId) (u:Value) (name:String):Prop where h:∀ w,(nilAhead (P.types.size+Made.depth) T u name).run P w=.ok (some false) w
class Pp (P:Program) (t:TypeId):Prop where h:P.underlying t=some (.pointer (P.pointee t))
class Sh (P:Program) (t:TypeId) (α:outParam Type) (val:outParam (α→Value)):Prop where h:True
class Ep (P:Program) (t:TypeId) (α:outParam Type) (d:outParam (DecidableEq α)) (val:outParam (α→Value)):Prop where h:@EqP P t α d val
class Cel (v:Value) (cs:outParam (List Value)):Prop where h:v.cells.toList=cs
class Dc (cs:List Value) (v:outParam Value):Prop where h:mkv true cs=v
instance (x:GI):Cel (vI x) (cI x):=⟨rfl⟩
instance (x:GQ):Cel (vQ x) (cQ x):=⟨rfl⟩
instance (x:GR):Cel (vR x) (cR x):=⟨rfl⟩
instance (x:Iv):Cel (vV x) (cV x):=⟨rfl⟩
instance (x:Qd):Cel (vD x) (cD x):=⟨rfl⟩
instance (x:U Qd):Cel (vUD x) (cUD x):=⟨rfl⟩
instance (x:Stp):Cel (vS x) (cS x):=⟨rfl⟩
instance (x:At Qd):Cel (vAD x) (cAD x):=⟨rfl⟩
instance (x:Bd):Cel (vW x) (cW x):=⟨rfl⟩
instance (x:Ev):Cel (vE x) (cE x):=⟨rfl⟩
instance:Cel (.agg #[]) []:=⟨rfl⟩
instance (k:IntKind) (n:Int):Cel (.int k n) [.int k n]:=⟨rfl⟩
instance (b:Bool):Cel (.bool b) [.bool b]:=⟨rfl⟩
instance (b k:Nat):Cel (ptr b k) [ptr b k]:=⟨rfl⟩
instance (s:ByteArray):Cel (.string s) [.string s]:=⟨rfl⟩
instance (x:GI):Dc (cI x) (vI x):=⟨rfl⟩
instance (x:GQ):Dc (cQ x) (vQ x):=⟨rfl⟩
instance (x:GR):Dc (cR x) (vR x):=⟨rfl⟩
instance (x:Iv):Dc (cV x) (vV x):=⟨rfl⟩
instance (x:Qd):Dc (cD x) (vD x):=⟨rfl⟩
instance (x:U Qd):Dc (cUD x) (vUD x):=⟨rfl⟩
instance (x:Stp):Dc (cS x) (vS x):=⟨rfl⟩
instance (x:At Qd):Dc (cAD x) (vAD x):=⟨rfl⟩
instance (x:Bd):Dc (cW x) (vW x):=⟨rfl⟩
instance (x:Ev):Dc (cE x) (vE x):=⟨rfl⟩
abbrev iN (n:Nat):Value:=.int .i64 (n:Int)
def zc:List Nat→List Value
 | []=>[]
 | 1::l=>.bool false::zc l
 | 2::l=>.bool false::.string ⟨#[]⟩::zc l
 | _::l=>.int .i64 0::zc l
theorem asA {p:Prop} (h:p:=by assumption):p:=h
theorem rfZ {p:Prop} (h:p:=by rfl):p:=h
theorem clA {p:Prop} (h:p:=by infer_instance):p:=h
theorem ex {p:Prop} (h:p:=by first | exact db rfl hg | rfl):p:=h
section
variable {P:Program} {w0 w:World} {F:List (Nat×Value)} {L:List Asn}
theorem exs_nil:evs F []=some []:=rfl
theorem exs_cons {x:Operand} {xs:List Operand} {v:Value} {vs:List Value} (h:ev F x=some v) (hs:evs F xs=some vs):evs F (x::xs)=some (v::vs):=mS h hs
theorem exs {p:Prop} (h:p:=by first | (repeat (first | exact exs_nil | (apply exs_cons; exact ex))) | rfl):p:=h
theorem slA {p:Prop} (h:p:=by first | assumption | exact View.sl (by assumption) | exact St.row_sl h 0 rfl | exact St.row_sl h 1 rfl | exact St.row_sl h 2 rfl | exact St.row_sl h 3 rfl | exact St.row_sl h 4 rfl | exact St.row_sl h 5 rfl | exact St.row_sl h 6 rfl):p:=h
theorem nn_v {α:Type} [Cod α] {sv:Value} {xs:List α} {i:Nat} (h:View w sv xs) (hi:i < xs.length):NN sv xs.length∧i < xs.length:=⟨h.nn hi,hi⟩
theorem nn_r {α:Type} [Cod α] {N:Nat} {a:Act} {e:TypeId} {sv:Value} {xs:List α} {i:Nat} (h:St w0 N F L a w) (j:Nat) (hj:L[j]?=some (Asn.row e sv xs)) (hi:i < xs.length):NN sv xs.length∧i < xs.length:=⟨h.row_nn j hj (Nat.zero_lt_of_lt hi),hi⟩
theorem nn_n {sv:Value} {n i:Nat} (h:NN sv n) (hi:i < n):NN sv n∧i < n:=⟨h,hi⟩
theorem nnA {p:Prop} (h:p:=by first | exact nn_v (by assumption) og | exact nn_r h 0 rfl og | exact nn_r h 1 rfl og | exact nn_r h 2 rfl og | exact nn_r h 3 rfl og | exact nn_r h 4 rfl og | exact nn_r h 5 rfl og | exact nn_r h 6 rfl og | exact nn_n (by assumption) og):p:=h
theorem nw_v {α:Type} [Cod α] {sv:Value} {xs:List α} (h:View w sv xs) (hi:0 < xs.length):NN sv xs.length:=h.nn hi
theorem nnB {p:Prop} (h:p:=by first | exact nw_v (by assumption) og | exact St.row_nn h 0 rfl og | exact St.row_nn h 1 rfl og | exact St.row_nn h 2 rfl og | exact St.row_nn h 3 rfl og | exact St.row_nn h 4 rfl og | exact St.row_nn h 5 rfl og | exact St.row_nn h 6 rfl og | assumption):p:=h
variable {x y ix:Operand} {t e tt s:TypeId} {k:IntKind}
theorem a_ia {sv:Value} {n i m:Nat} [hu:Un P t (.slice e)] [hz:Sz P e m] (hx:ev F x=some sv) (hi:ev F ix=some (.int k (i:Int))) (hs:NN sv n∧i < n):Rd P w0 F [] (.indexAddr t x ix) (sel sv (i*m+0)):=iy hu.h hz.h hx hi hs.1 hs.2
theorem a_fa {f ft off n b k k':Nat} [hu:Fl P s f ft off] [hz:Sz P ft n] (hn:Nat.beq n 0=false) (hx:ev F x=some (ptr b k)) (hk:k+off=k'):Rd P w0 F [] (.fieldAddr s x f) (ptr b k'):=by
 obtain ⟨fs,fld,h1,h2,rfl,rfl⟩:=hu.h
 exact fa h1 h2 hz.h hn hx hk
theorem a_fs {f ft off n m b k k':Nat} {sv:Value} [hu:Fl P s f ft off] [hz:Sz P ft n] (hn:Nat.beq n 0=false) (hx:ev F x=some (sel sv (b+k))) (hs:NN sv m) (hk:k+off=k'):Rd P w0 F [] (.fieldAddr s x f) (sel sv (b+k')):=by
 obtain ⟨fs,fld,h1,h2,rfl,rfl⟩:=hu.h
 exact Go.Sx.fs h1 h2 hz.h hn hs hx (by rw [← hk,Nat.add_assoc])
theorem a_len {sv:Value} {n:Nat} [hu:Un P t (.slice e)] (hx:ev F x=some sv) (hs:SL sv n):Rd P w0 F [] (.call ⟨.builtin .len,#[x],#[t]⟩) (.int .i64 (n:Int)):=il hu.h hx hs
theorem a_ldW {n b:Nat} {cs:List Value} {v:Value} [ht:Ag P t true] [hz:Sz P t n] (hx:ev F x=some (ptr b 0)) (hn:Nat.blt 0 n=true) (hl:cs.length=n) [hv:Dc cs v]:Rd P w0 F [Asn.blk b cs e] (.load t x) v :=
 jr ht.h hz.h hx hn (by rw [List.drop_zero,← hl,List.take_length]) (by rw [List.drop_zero,← hl,List.take_length]; exact hv.h)
theorem a_ldS {α:Type} {val:α→Value} {y:α} {agg:Bool} {n b k:Nat} {cs:List Value} [ht:Ag P t agg] [hz:Sz P t n] [Sh P t α val] (hx:ev F x=some (ptr b k)) (hn:Nat.blt 0 n=true) (hl:((cs.drop k).take n).length=n) (hv:mkv agg ((cs.drop k).take n)=val y):Rd P w0 F [Asn.blk b cs e] (.load t x) (val y):=jr ht.h hz.h hx hn hl hv
theorem a_ld1 {n b k:Nat} {cs:List Value} {v:Value} [ht:Ag P t false] [hz:Sz P t n] (hx:ev F x=some (ptr b k)) (hn:Nat.blt 0 n=true) (hl:((cs.drop k).take n).length=n) (hv:cs[k]?=some v):Rd P w0 F [Asn.blk b cs e] (.load t x) v :=
 jr ht.h hz.h hx hn hl (by
  have:((cs.drop k).take n)[0]?=some v:=by
   rw [List.getElem?_take_of_lt (Nat.le_of_ble_eq_true hn),List.getElem?_drop]; simpa using hv
  cases h:(cs.drop k).take n with
  | nil=>rw [h] at this; simp at this
  | cons u us=>rw [h] at this; simp at this; simp [mkv,this])
theorem a_ldRS {α β:Type} [Cod α] {val:β→Value} {y:β} {agg:Bool} {n k m:Nat} {sv:Value} {xs:List α} {i:Nat} {u:α} [ht:Ag P t agg] [hz:Sz P t n] [Sh P t β val] (hx:ev F x=some (sel sv (i*m+k))) (hq:Cod.n α=m) (hi:xs[i]?=some u) (hn:Nat.blt 0 n=true)
 (hl:(((Cod.enc u).drop k).take n).length=n) (hv:mkv agg (((Cod.enc u).drop k).take n)=val y):Rd P w0 F [Asn.row e sv xs] (.load t x) (val y):=iw ht.h hz.h hi hx (by rw [hq]) hn hl hv
theorem a_ldVS {α β:Type} [Cod α] {val:β→Value} {y:β} {agg:Bool} {n k m:Nat} {sv:Value} {xs:List α} {i:Nat} {u:α} [ht:Ag P t agg] [hz:Sz P t n] [Sh P t β val] (hx:ev F x=some (sel sv (i*m+k))) (hw:View w0 sv xs) (hq:Cod.n α=m) (hi:xs[i]?=some u) (hn:Nat.blt 0 n=true)
 (hl:(((Cod.enc u).drop k).take n).length=n) (hv:mkv agg (((Cod.enc u).drop k).take n)=val y):Rd P w0 F [] (.load t x) (val y):=lE ht.h hz.h hw hi hx (by rw [hq]) hn hl hv
theorem one_of {cs:List Value} {n k:Nat} {v:Value} (hn:Nat.blt 0 n=true) (hv:cs[k]?=some v):mkv false ((cs.drop k).take n)=v:=by
 have:((cs.drop k).take n)[0]?=some v:=by
  rw [List.getElem?_take_of_lt (Nat.le_of_ble_eq_true hn),List.getElem?_drop]; simpa using hv
 cases h:(cs.drop k).take n with
 | nil=>rw [h] at this; simp at this
 | cons u us=>rw [h] at this; simp at this; simp [mkv,this]
theorem a_ldR1 {α:Type} [Cod α] {n k m:Nat} {sv v:Value} {xs:List α} {i:Nat} {u:α} [ht:Ag P t false] [hz:Sz P t n] (hx:ev F x=some (sel sv (i*m+k))) (hq:Cod.n α=m) (hi:xs[i]?=some u) (hn:Nat.blt 0 n=true)
 (hl:(((Cod.enc u).drop k).take n).length=n) (hv:(Cod.enc u)[k]?=some v):Rd P w0 F [Asn.row e sv xs] (.load t x) v:=iw ht.h hz.h hi hx (by rw [hq]) hn hl (one_of hn hv)
theorem a_ldV1 {α:Type} [Cod α] {n k m:Nat} {sv v:Value} {xs:List α} {i:Nat} {u:α} [ht:Ag P t false] [hz:Sz P t n] (hx:ev F x=some (sel sv (i*m+k))) (hw:View w0 sv xs) (hq:Cod.n α=m) (hi:xs[i]?=some u) (hn:Nat.blt 0 n=true)
 (hl:(((Cod.enc u).drop k).take n).length=n) (hv:(Cod.enc u)[k]?=some v):Rd P w0 F [] (.load t x) v:=lE ht.h hz.h hw hi hx (by rw [hq]) hn hl (one_of hn hv)
theorem giA {p:Prop} (h:p:=by first | exact ff og | exact mR og):p:=h
theorem hqA {p:Prop} (h:p:=by rfl):p:=h
theorem hkA {p:Prop} (h:p:=by first | exact Nat.zero_add _ | exact Nat.add_zero _ | rfl):p:=h
theorem a_addN {a b:Nat} (hx:ev F x=some (.int .i64 (a:Int))) (hy:ev F y=some (.int .i64 (b:Int))) (h:a+b < 9223372036854775808):Rd P w0 F [] (.binOp .add t x y tt) (.int .i64 ((a+b:Nat):Int)):=eH hx hy (by rw [IntKind.wrap_i64]; omega)
theorem a_add1 {a:Nat} (hx:ev F x=some (.int .i64 (a:Int))) (hy:ev F y=some (.int .i64 1)) (h:a < 9223372036854775807):Rd P w0 F [] (.binOp .add t x y tt) (.int .i64 ((a+1:Nat):Int)):=eH hx hy (by rw [IntKind.wrap_i64]; omega)
theorem a_sub1 {a:Nat} (hx:ev F x=some (.int .i64 (a:Int))) (hy:ev F y=some (.int .i64 1)) (h:0 < a∧a≤9223372036854775807):Rd P w0 F [] (.binOp .sub t x y tt) (.int .i64 ((a - 1:Nat):Int)):=fh hx hy (by rw [IntKind.wrap_i64]; omega)
theorem a_eqlT {α:Type} {d:DecidableEq α} {val:α→Value} {b c:α} [he:Ep P t α d val] (hx:ev F x=some (val b)) (hy:ev F y=some (val c)):Rd P w0 F [] (.binOp .eql t x y tt) (.bool (decide (b=c))):=uM he.h hx hy
theorem a_neqT {α:Type} {d:DecidableEq α} {val:α→Value} {b c:α} [he:Ep P t α d val] (hx:ev F x=some (val b)) (hy:ev F y=some (val c)):Rd P w0 F [] (.binOp .neq t x y tt) (.bool (!decide (b=c))):=xq he.h hx hy
theorem yT:bs 0=⟨#[]⟩:=rfl
theorem a_eqB0 {m:Nat} (hx:ev F x=some (.string (bs m))) (hy:ev F y=some (.string ⟨#[]⟩)):Rd P w0 F [] (.binOp .eql t x y tt) (.bool (decide (m=0))):=tV hx (by rw [hy,yT])
theorem a_neB0 {m:Nat} (hx:ev F x=some (.string (bs m))) (hy:ev F y=some (.string ⟨#[]⟩)):Rd P w0 F [] (.binOp .neq t x y tt) (.bool (!decide (m=0))):=xr hx (by rw [hy,yT])
theorem a_nilS {sv:Value} {n q:Nat} (hx:ev F x=some (sel sv q)) (hn:NN sv n):Rd P w0 F [] (.nilCheck x) (sel sv q):=r_nilS hn hx
theorem a_nilM {m:String} {T:TypeId} {u:Value} [hn:Nl P T u m] (hx:ev F x=some (.func (.method m) #[.iface T u] #[])):Rd P w0 F [] (.nilCheck x) (.func (.method m) #[.iface T u] #[]):=r_nilM hx hn.h
theorem a_neqPS {sv:Value} {n q:Nat} [hu:Pp P t] (hx:ev F x=some (sel sv q)) (hn:NN sv n):Rd P w0 F [] (.binOp .neq t x (.const (.pointer none)) tt) (.bool true):=r_neqPS hu.h hn hx
theorem a_neqPN [hu:Pp P t] (hx:ev F x=some (.pointer none)):Rd P w0 F [] (.binOp .neq t x (.const (.pointer none)) tt) (.bool false):=rf hu.h hx
class On:Prop where t:True
theorem a_iaA [On] (i:Nat) {b o0 n m:Nat} [hu:Un P t (.array n e)] [hz:Sz P e m] (hx:ev F x=some (ptr b o0)) (hi:ev F ix=some (.int k (i:Int))) (h:Nat.blt i n=true):Rd P w0 F [] (.indexAddr t x ix) (ptr b (o0+i*m)):=vY hu.h hz.h hx hi (Nat.le_of_ble_eq_true h)
theorem a_addI [On] {a b:Int} (hx:ev F x=some (.int .i64 a)) (hy:ev F y=some (.int .i64 b)) (h:-9223372036854775808≤a+b∧a+b < 9223372036854775808):Rd P w0 F [] (.binOp .add t x y tt) (.int .i64 (a+b)):=eH hx hy (by rw [IntKind.wrap_i64]; omega)
class Bu (P:Program) (t:TypeId) (ix:List Nat) (vs:List Value) (v:outParam Value):Prop where h:∀ {w0:World} {F:List (Nat×Value)} {parts:List (Nat×Operand)},parts.map (·.1)=ix→evs F (parts.map (·.2))=some vs→Rd P w0 F [] (.build t parts.toArray) v
inductive PX (F:List (Nat×Value)):List (Nat×Operand)→List Nat→List Value→Prop
 | nil:PX F [] [] []
 | cons {i:Nat} {x:Operand} {v:Value} {ps:List (Nat×Operand)} {is:List Nat} {vs:List Value} (h:ev F x=some v) (k:PX F ps is vs):PX F ((i,x)::ps) (i::is) (v::vs)
theorem PX.ok {ps:List (Nat×Operand)} {is:List Nat} {vs:List Value} (h:PX F ps is vs):ps.map (·.1)=is∧evs F (ps.map (·.2))=some vs:=by
 induction h with
 | nil=>exact ⟨rfl,rfl⟩
 | cons h _ ih=>exact ⟨by rw [List.map_cons,ih.1],mS h ih.2⟩
theorem pxA {p:Prop} (h:p:=by repeat (first | exact PX.nil | (apply PX.cons; exact ex))):p:=h
theorem a_bd {parts:List (Nat×Operand)} {ix:List Nat} {vs:List Value} {v:Value} (hx:PX F parts ix vs) (hb:Bu P t ix vs v):Rd P w0 F [] (.build t parts.toArray) v:=hb.h hx.ok.1 hx.ok.2
theorem Bu.of {ix:List Nat} {vs zero cells:List Value} {places:List (Nat×Nat)} {v:Value} (hb:BuildF P t zero places) (hf:qy (fun i=>places[i]?) zero (ix.zip vs)=some cells) (hv:Value.agg cells.toArray=v):Bu P t ix vs v:=⟨fun hi hx=>bN hb hx (by rw [hi]; exact hf) hv⟩
class Ie (P:Program) (t:TypeId):Prop where h:∀ {w0:World} {F:List (Nat×Value)} {x:Operand} {v:Value},ev F x=some v→Rd P w0 F [] (.makeInterface t x) (.iface t v)
theorem a_if {v:Value} [hi:Ie P t] (hx:ev F x=some v):Rd P w0 F [] (.makeInterface t x) (.iface t v):=hi.h hx
class Ub (P:Program) (t:TypeId):Prop where h:P.underlying t=some .bool
theorem a_eqB [On] {b c:Bool} [hu:Ub P t] (hx:ev F x=some (.bool b)) (hy:ev F y=some (.bool c)):Rd P w0 F [] (.binOp .eql t x y tt) (.bool (b == c)):=xu hu.h hx hy
theorem a_neB [On] {b c:Bool} [hu:Ub P t] (hx:ev F x=some (.bool b)) (hy:ev F y=some (.bool c)):Rd P w0 F [] (.binOp .neq t x y tt) (.bool (b != c)):=sA hu.h hx hy
theorem rdA {p:Prop} (h:p:=by first | exact ap ex | exact ay ex | exact rh ex ex | exact r_neq ex ex | exact j7 ex ex | exact r_gtr ex ex | exact vZ ex ex | exact r_leq ex ex | exact r_not ex | exact cn ex rfZ | exact qr rfl (fun e=>db rfl e) | exact r_or rfl (fun e=>db rfl (notI e)) | exact qr ex (fun e=>db rfl (andI hg e)) | exact r_or ex (fun e=>db rfl (andI hg (notI e))) | exact a_fa rfZ ex hkA | exact a_ia ex ex nnA | exact a_fs rfZ ex nnB hkA | exact a_len ex slA | exact a_ldVS ex asA hqA giA rfZ rfZ rfZ | exact a_ldV1 ex asA hqA giA rfZ rfZ rfZ | exact a_add1 ex ex og | exact a_sub1 ex ex og | exact a_addN ex ex og | exact a_eqlT ex ex | exact a_neqT ex ex | exact tV ex ex | exact xr ex ex | exact a_eqB0 ex ex | exact a_neB0 ex ex | exact a_nilS ex nnB | exact r_nilP ex | exact a_neqPN ex | exact a_neqPS ex nnB | exact tU ex | exact a_nilM ex | exact a_if ex | exact a_addI ex ex og | exact a_iaA 0 ex ex rfZ | exact a_iaA 1 ex ex rfZ | exact a_eqB ex ex | exact a_neB ex ex | exact a_bd pxA clA):p:=h
end
section
variable {P:Program} {t e:TypeId} {n k i m:Nat} {cs:List Value} {v:Value}
def L1 (P:Program) (cs:List Value) (e:TypeId) (k:Nat) (t:TypeId) (v:Value):Prop:=∀ (w0:World) (F:List (Nat×Value)) (x:Operand) (b:Nat),ev F x=some (ptr b k)→Rd P w0 F [Asn.blk b cs e] (.load t x) v
theorem l1W [Ag P t true] [Sz P t n] (hn:Nat.blt 0 n=true) (hl:cs.length=n) [Dc cs v]:L1 P cs e 0 t v:=fun _ _ _ _ hx=>a_ldW hx hn hl
theorem l1S {α:Type} {val:α→Value} {y:α} {agg:Bool} [Ag P t agg] [Sz P t n] [Sh P t α val] (hn:Nat.blt 0 n=true) (hl:((cs.drop k).take n).length=n) (hv:mkv agg ((cs.drop k).take n)=val y):L1 P cs e k t (val y):=fun _ _ _ _ hx=>a_ldS hx hn hl hv
theorem l11 [Ag P t false] [Sz P t n] (hn:Nat.blt 0 n=true) (hl:((cs.drop k).take n).length=n) (hv:cs[k]?=some v):L1 P cs e k t v:=fun _ _ _ _ hx=>a_ld1 hx hn hl hv
theorem l1A {p:Prop} (h:p:=by first | exact l1W rfZ rfZ | exact l1S rfZ rfZ rfZ | exact l11 rfZ rfZ rfZ):p:=h
def LR {α:Type} [Cod α] (P:Program) (xs:List α) (e:TypeId) (q:Nat) (t:TypeId) (v:Value):Prop:=∀ (w0:World) (F:List (Nat×Value)) (x:Operand) (sv:Value),ev F x=some (sel sv q)→Rd P w0 F [Asn.row e sv xs] (.load t x) v
theorem lrS {α β:Type} [Cod α] {val:β→Value} {y:β} {agg:Bool} {xs:List α} {u:α} [Ag P t agg] [Sz P t n] [Sh P t β val] (hq:Cod.n α=m) (hi:xs[i]?=some u) (hn:Nat.blt 0 n=true) (hl:(((Cod.enc u).drop k).take n).length=n) (hv:mkv agg (((Cod.enc u).drop k).take n)=val y):LR P xs e (i*m+k) t (val y):=fun _ _ _ _ hx=>a_ldRS hx hq hi hn hl hv
theorem lr1 {α:Type} [Cod α] {xs:List α} {u:α} [Ag P t false] [Sz P t n] (hq:Cod.n α=m) (hi:xs[i]?=some u) (hn:Nat.blt 0 n=true) (hl:(((Cod.enc u).drop k).take n).length=n) (hv:(Cod.enc u)[k]?=some v):LR P xs e (i*m+k) t v:=fun _ _ _ _ hx=>a_ldR1 hx hq hi hn hl hv
theorem lrA {p:Prop} (h:p:=by first | exact lrS hqA giA rfZ rfZ rfZ | exact lr1 hqA giA rfZ rfZ rfZ):p:=h
def LB (P:Program) (L:List Asn) (b k:Nat) (t:TypeId) (v:Value):Prop:=∃ (i:Nat) (cs:List Value) (e:TypeId),L[i]?=some (Asn.blk b cs e)∧L1 P cs e k t v
theorem lb (i:Nat) {L:List Asn} {b:Nat} (hi:L[i]?=some (Asn.blk b cs e)) (h:L1 P cs e k t v):LB P L b k t v:=⟨i,cs,e,hi,h⟩
def LW (P:Program) (L:List Asn) (sv:Value) (q:Nat) (t:TypeId) (v:Value):Prop:=∃ (i:Nat) (α:Type) (_:Cod α) (xs:List α) (e:TypeId),L[i]?=some (Asn.row e sv xs)∧LR P xs e q t v
theorem lw (i:Nat) {L:List Asn} {sv:Value} {q:Nat} {α:Type} [c:Cod α] {xs:List α} (hi:L[i]?=some (Asn.row e sv xs)) (h:LR P xs e q t v):LW P L sv q t v:=⟨i,α,c,xs,e,hi,h⟩
variable {w0:World} {F:List (Nat×Value)} {L:List Asn} {x:Operand} {b q:Nat} {sv:Value}
theorem Rd_b (hx:ev F x=some (ptr b k)) (h:LB P L b k t v):Rd P w0 F L (.load t x) v:=by
 obtain ⟨i,cs,e,hi,h⟩:=h
 exact (h w0 F x b hx).of_mem hi
theorem Rd_s (hx:ev F x=some (sel sv q)) (h:LW P L sv q t v):Rd P w0 F L (.load t x) v:=by
 obtain ⟨i,_,_,_,_,hi,h⟩:=h
 exact (h w0 F x sv hx).of_mem hi
end
theorem ldA {p:Prop} (h:p:=by
 first | (apply Rd_b; exact ex; (first | exact lb 0 rfl l1A | exact lb 1 rfl l1A | exact lb 2 rfl l1A | exact lb 3 rfl l1A | exact lb 4 rfl l1A | exact lb 5 rfl l1A | exact lb 6 rfl l1A | exact lb 7 rfl l1A | exact lb 8 rfl l1A | exact lb 9 rfl l1A | exact lb 10 rfl l1A | exact lb 11 rfl l1A)) | (apply Rd_s; exact ex; (first | exact lw 0 rfl lrA | exact lw 1 rfl lrA | exact lw 2 rfl lrA | exact lw 3 rfl lrA | exact lw 4 rfl lrA | exact lw 5 rfl lrA | exact lw 6 rfl lrA | exact lw 7 rfl lrA | exact lw 8 rfl lrA))):p:=h
theorem pT {α:Type} {c:Bool} {x y v:α} (h:c=true) (k:x=v):(bif c then x else y)=v:=(cT h).trans k
theorem pF {α:Type} {c:Bool} {x y v:α} (h:c=false) (k:y=v):(bif c then x else y)=v:=(cF h).trans k
theorem pL {S R T:Type} {x X:S ⊕ R} {f:S→T} {g:R→T} {s:S} {v:T} (h:x=X) (h':X=.inl s) (k:f s=v):fin x f g=v:=(ir (h.trans h')).trans k
theorem pR {S R T:Type} {x X:S ⊕ R} {f:S→T} {g:R→T} {r:R} {v:T} (h:x=X) (h':X=.inr r) (k:g r=v):fin x f g=v:=(fin_r (h.trans h')).trans k
theorem pt {p:Prop} (h:p:=by
 repeat (first | (apply pT; assumption) | (apply pF; assumption) | (apply pL; assumption; assumption) | (apply pR; assumption; assumption))
 rfl):p:=h
theorem sbA {p:Prop} (h:p:=by repeat (first | exact trivial | refine ⟨rfl,?_⟩)):p:=h
section
variable {P:Program} {w0 w:World} {N:Nat} {F F':List (Nat×Value)} {L:List Asn} {a:Act}
theorem St.rs (h:St w0 N F L a w) (hF:SubF F' F:=by exact sbA):St w0 N F' L a w:=h.sub hF
theorem St.re (h:St w0 N F L a w) (ix:List Nat) (hn:ix.Nodup:=by decide) (hF:SubF F' F:=by exact sbA):St w0 N F' (ix.filterMap fun i=>L[i]?) a w:=(h.pick ix hn).sub hF
theorem rt {fn:Func} {R:Ending→World→Prop} {rs:List ResultVar} {vs:List Value} {v:Value} (h:St w0 N F L a w) (hrs:fn.results=rs.toArray:=by rfl) (hr:Res P w F L rs vs:=by first | exact .tmp rfl .nil | exact .tmp rfl (.tmp rfl .nil) | exact .nil | exact .tmp rfl (.tmp rfl (.tmp rfl .nil))) (hv:vz vs=v:=by rfl) (hR:R (.returned v) w) :
 bodyPost P fn R .ret a w:=ret h hrs hr hv hR
end
section
variable {P:Program} {w0:World} {N:Nat} {F:List (Nat×Value)} {L:List Asn} {ops:Array Oper} {Q:Exit→Act→World→Prop}
def thn (P:Program) (y:Code) (Q:Exit→Act→World→Prop):Exit→Act→World→Prop:=Exit.then (fun a w=>y.wp P Q a w) Q
theorem t_rs {id:Nat} {l:List Oper} {y:Code} (k:∀ a w,St w0 N F L a w→wpList P l.toArray (thn P y Q) l a w):∀ a w,St w0 N F L a w→(Code.seq (.region id l.toArray false) y).wp P Q a w:=fun a w h=>wp_seq (c_r (k a w h))
theorem t_seq {x y:Code} (k:∀ a w,St w0 N F L a w→x.wp P (thn P y Q) a w):∀ a w,St w0 N F L a w→(Code.seq x y).wp P Q a w:=fun a w h=>wp_seq (k a w h)
theorem t_nil {y:Code} (k:∀ a w,St w0 N F L a w→y.wp P Q a w):∀ a w,St w0 N F L a w→wpList P ops (thn P y Q) [] a w:=fun a w h=>fX (k a w h)
theorem t_nilQ (k:∀ a w,St w0 N F L a w→Q .normal a w):∀ a w,St w0 N F L a w→wpList P ops Q [] a w:=fun a w h=>fX (k a w h)
theorem t_nrm {y:Code} (k:∀ a w,St w0 N F L a w→y.wp P Q a w):∀ a w,St w0 N F L a w→thn P y Q .normal a w:=k
theorem t_ret {y:Code} (k:∀ a w,St w0 N F L a w→Q .ret a w):∀ a w,St w0 N F L a w→thn P y Q .ret a w:=k
theorem t_ex {y:Code} {i:Nat} (k:∀ a w,St w0 N F L a w→Q (.exit i) a w):∀ a w,St w0 N F L a w→thn P y Q (.exit i) a w:=k
theorem t_kret {K:Act→World→Prop} (k:∀ a w,St w0 N F L a w→Q .ret a w):∀ a w,St w0 N F L a w→Exit.then K Q .ret a w:=k
theorem t_kex {K:Act→World→Prop} {i:Nat} (k:∀ a w,St w0 N F L a w→Q (.exit i) a w):∀ a w,St w0 N F L a w→Exit.then K Q (.exit i) a w:=k
theorem t_bnrm {id:Nat} (k:∀ a w,St w0 N F L a w→Q .normal a w):∀ a w,St w0 N F L a w→Exit.inBlock id Q .normal a w:=k
theorem t_bret {id:Nat} (k:∀ a w,St w0 N F L a w→Q .ret a w):∀ a w,St w0 N F L a w→Exit.inBlock id Q .ret a w:=k
theorem t_bex {id i:Nat} (hi:Nat.beq i id=true) (k:∀ a w,St w0 N F L a w→Q .normal a w):∀ a w,St w0 N F L a w→Exit.inBlock id Q (.exit i) a w:=fun a w h=>by
 show if i=id then _ else _
 rw [if_pos (Nat.eq_of_beq_eq_true hi)]; exact k a w h
theorem t_bex' {id i:Nat} (hi:Nat.beq i id=false) (k:∀ a w,St w0 N F L a w→Q (.exit i) a w):∀ a w,St w0 N F L a w→Exit.inBlock id Q (.exit i) a w:=fun a w h=>by
 show if i=id then _ else _
 rw [if_neg (fun e=>by rw [e,Nat.beq_refl] at hi; cases hi)]; exact k a w h
theorem gld {rest:List Oper} {ty:TypeId} {pos:String} {aft:Array Edge} {d:Nat} {t:TypeId} {x:Operand} {v:Value} (hs:Rd P w0 F L (.load t x) v) (hd:Nat.blt d N=true) (k:∀ a w,St w0 N ((d,v)::F) L a w→wpList P ops Q rest a w) :
 ∀ a w,St w0 N F L a w→wpList P ops Q (⟨some d,.load t x,ty,pos,aft,none⟩::rest) a w:=fun a w h=>rd h hs hd k
theorem wy (i:Nat) {rest:List Oper} {ty:TypeId} {pos:String} {aft:Array Edge} {t e:TypeId} {x y:Operand} {b n:Nat} {v:Value} {cs us:List Value} (hx:ev F x=some (ptr b 0)) (hi:L[i]?=some (Asn.blk b cs e)) [hz:Sz P t n] (hy:ev F y=some v)
 (hc:Cel v us) (hn:us.length=n) (h1:us.all Value.oneCell'=true) (hf:Nat.beq n cs.length=true)
 (c:∀ a w,St w0 N F (L.set i (Asn.blk b us e)) a w→wpList P ops Q rest a w):∀ a w,St w0 N F L a w→wpList P ops Q (⟨none,.store t x y,ty,pos,aft,none⟩::rest) a w :=
 gs i us hi hz.h hx hy hc.h hn h1 (by rw [Nat.zero_add,← Nat.eq_of_beq_eq_true hf]; exact Nat.ble_self_eq_true n) (by
  have:=Nat.eq_of_beq_eq_true hf
  simp [spl,hn,this]) c
theorem t_g {j dj:Nat} {want c b g:Bool} {rest:List Oper} {ty:TypeId} {pos:String} {aft:Array Edge} {op:Op} {d:Nat} (hj:(ops[j]?).bind (·.dst)=some dj) (hl:look F dj=some (gv c (.bool b))∨(look F dj=some (.bool b)∧c=true)) (hg:(c && (b == want))=g) {v:Value} (hs:g=true→Rd P w0 F L op v) (hd:Nat.blt d N=true)
 (k:∀ a w,St w0 N ((d,gv g v)::F) L a w→wpList P ops Q rest a w):∀ a w,St w0 N F L a w→wpList P ops Q (⟨some d,op,ty,pos,aft,some (j,want)⟩::rest) a w:=fun _ _ h=>by
 rcases hl with hl | ⟨hl,rfl⟩
 ·exact gd h hj hl hg (fun e=>(hs e).step) hd k
 ·exact gd (c:=true) h hj hl hg (fun e=>(hs e).step) hd k
end
attribute [irreducible] thn
section
variable {P:Program} {w0:World} {N:Nat} {F F':List (Nat×Value)} {L L':List Asn} {ops:Array Oper} {Q:Exit→Act→World→Prop} {R R':Act→World→Prop}
theorem rgA {p:Prop} (h:p:=by first | exact ldA | exact Rd.of_nil rdA):p:=h
theorem wu {p:Prop} (h:p:=by
 intro k
 repeat (first | (apply g0; exact rdA; exact rfl) | refine t_rs ?_ | refine t_nil ?_ | refine t_seq ?_ | refine t_nrm ?_ | (apply gld; exact ldA; exact rfl) | refine gS ?_ | refine gB ?_ | refine gR ?_ | refine t_bnrm ?_ | refine gE ?_ | refine gT ?_ | refine t_ret ?_ | refine t_bret ?_ | refine t_kret ?_ | refine t_bex rfl ?_ | refine t_bex' rfl ?_ | refine t_ex ?_ | refine t_kex ?_ | (apply wy 0; exact ex; exact rfl; exact ex; infer_instance; exact rfl; exact rfl; exact rfl) | (apply wy 1; exact ex; exact rfl; exact ex; infer_instance; exact rfl; exact rfl; exact rfl) | (apply wy 2; exact ex; exact rfl; exact ex; infer_instance; exact rfl; exact rfl; exact rfl) | (apply wy 3; exact ex; exact rfl; exact ex; infer_instance; exact rfl; exact rfl; exact rfl) | (apply wy 4; exact ex; exact rfl; exact ex; infer_instance; exact rfl; exact rfl; exact rfl) | (apply wy 5; exact ex; exact rfl; exact ex; infer_instance; exact rfl; exact rfl; exact rfl) | (apply wy 6; exact ex; exact rfl; exact ex; infer_instance; exact rfl; exact rfl; exact rfl) | (apply wy 7; exact ex; exact rfl; exact ex; infer_instance; exact rfl; exact rfl; exact rfl) | (apply wy 8; exact ex; exact rfl; exact ex; infer_instance; exact rfl; exact rfl; exact rfl) | (apply wy 9; exact ex; exact rfl; exact ex; infer_instance; exact rfl; exact rfl; exact rfl) | (apply wy 10; exact ex; exact rfl; exact ex; infer_instance; exact rfl; exact rfl; exact rfl) | (apply wy 11; exact ex; exact rfl; exact ex; infer_instance; exact rfl; exact rfl; exact rfl) | refine t_nilQ ?_ | (apply t_g; exact rfl; (first | exact .inl rfl | exact .inr ⟨rfl,rfl⟩); (first | exact g_t | exact g_f | exact g_ct | exact g_cf); exact fun hg=>rgA; exact rfl))
 exact k):p:=h
theorem W (w:(∀ a w,St w0 N F' L' a w→R' a w)→∀ a w,St w0 N F L a w→R a w:=by exact wu) (k:∀ a w,St w0 N F' L' a w→R' a w):∀ a w,St w0 N F L a w→R a w:=w k
theorem rx {fn:Func} {R1:Ending→World→Prop} {rs:List ResultVar} {vs:List Value} {v:Value} {R0:Act→World→Prop} {a:Act} {w:World} (h:St w0 N F L a w) (k:(∀ a w,St w0 N F' L' a w→bodyPost P fn R1 .ret a w)→∀ a w,St w0 N F L a w→R0 a w:=by exact wu) (hrs:fn.results=rs.toArray:=by rfl)
 (hr:∀ w,Res P w F' L' rs vs:=by intro w; first | exact .tmp rfl .nil | exact .tmp rfl (.tmp rfl .nil) | exact .nil | exact .tmp rfl (.tmp rfl (.tmp rfl .nil))) (hv:vz vs=v:=by rfl) (hR:∀ a w,St w0 N F' L' a w→R1 (.returned v) w):R0 a w:=k (fun a w h=>ret h hrs (hr w) hv (hR a w h)) a w h
theorem nx {I:Nat→Act→World→Prop} {n:Nat} {R0:Act→World→Prop} {a:Act} {w:World} (h:St w0 N F L a w) (k:(∀ a w,St w0 N F' L' a w→Exit.then (fun a' w'=>∃ n',n' < n∧I n' a' w') Q .normal a w)→∀ a w,St w0 N F L a w→R0 a w:=by exact wu)
 (hk:∀ a w,St w0 N F' L' a w→∃ n',n' < n∧I n' a w):R0 a w:=k (fun a w h=>hk a w h) a w h
variable {d:Nat} {op:Op} {rest:List Oper} {ty:TypeId} {pos:String} {aft:Array Edge}
theorem xo {v:Value} (w:(∀ a w,St w0 N F' L' a w→wpList P ops Q (⟨some d,op,ty,pos,aft,none⟩::rest) a w)→∀ a w,St w0 N F L a w→R a w:=by exact wu) (hs:Rd P w0 F' [] op v) (hd:Nat.blt d N=true:=by rfl)
 (k:∀ a w,St w0 N ((d,v)::F') L' a w→wpList P ops Q rest a w):∀ a w,St w0 N F L a w→R a w:=w fun _ _ h=>rd0 h hs hd k
theorem ent_w {f:FuncId} {x:Operand} {args:Array Operand} {ats:Array TypeId} {vs cap us:List Value} (hc:∀ args w,(callFunc f args).run P w=.ok (.enter f args) w) (hx:ev F x=some (.func (.func f) #[] cap.toArray)) (ha:evs F args.toList=some us) (hv:us++cap=vs) :
 Ent P F (.call ⟨.value x,args,ats⟩) f vs:=hv ▸ ug hc hx ha
theorem enA {p:Prop} (h:p:=by first | exact ck Cf.h exs | exact ent_i Mt.h Cf.h ex exs | exact ent_w Cf.h ex exs rfZ | exact ent_w (cap:=[]) Cf.h ex exs rfZ):p:=h
theorem xc {f:FuncId} {vs:List Value} {v:Value} {p:Prop} (w:(∀ a w,St w0 N F' L' a w→wpList P ops Q (⟨some d,op,ty,pos,aft,none⟩::rest) a w)→∀ a w,St w0 N F L a w→R a w:=by exact wu)
 (ct:∀ w,Below w0.heap.size w0 w→(∃ U,Sep w0.heap.size w L' U)→Calls P f vs.toArray w (RetP w v p)) (he:Ent P F' op f vs:=by exact enA) (hd:Nat.blt d N=true:=by rfl)
 (k:∀ a w,St w0 N ((d,v)::F') L' a w→wpList P ops Q rest a w):∀ a w,St w0 N F L a w→R a w:=w fun _ _ h=>wr h he ct hd k
theorem xk {f:FuncId} {vs:List Value} {v:Value} {p:Prop} (ct:∀ w,Calls P f vs.toArray w (RetP w v p)) (w:(∀ a w,St w0 N F' L' a w→wpList P ops Q (⟨some d,op,ty,pos,aft,none⟩::rest) a w)→∀ a w,St w0 N F L a w→R a w:=by exact wu)
 (he:Ent P F' op f vs:=by exact enA) (hd:Nat.blt d N=true:=by rfl)
 (k:∀ a w,St w0 N ((d,v)::F') L' a w→wpList P ops Q rest a w):∀ a w,St w0 N F L a w→R a w:=w fun _ _ h=>wr h he (kk ct) hd k
theorem xa {t:TypeId} {cs:List Value} (w:(∀ a w,St w0 N F' L' a w→wpList P ops Q (⟨some d,.alloc t,ty,pos,aft,none⟩::rest) a w)→∀ a w,St w0 N F L a w→R a w:=by exact wu) (hz:Zc P t cs:=by infer_instance) (hd:Nat.blt d N=true:=by rfl)
 (k:∀ b a w,St w0 N ((d,ptr b 0)::F') (Asn.blk b cs t::L') a w→wpList P ops Q rest a w):∀ a w,St w0 N F L a w→R a w:=w fun _ _ h=>by
 obtain ⟨z,hz,hc⟩:=hz.h
 exact al h cs hz hc hd k
theorem xb {x:Operand} {v:Value} {t:TypeId} {cs:List Value} (w:(∀ a w,St w0 N F' L' a w→wpList P ops Q (⟨some d,.box t x,ty,pos,aft,none⟩::rest) a w)→∀ a w,St w0 N F L a w→R a w:=by exact wu) (hx:ev F' x=some v:=by exact ex) (hc:Cel v cs:=by infer_instance) (hd:Nat.blt d N=true:=by rfl)
 (k:∀ b a w,St w0 N ((d,ptr b 0)::F') (Asn.blk b cs t::L') a w→wpList P ops Q rest a w):∀ a w,St w0 N F L a w→R a w:=w fun _ _ h=>bx h cs hx hc.h hd k
theorem xs (i:Nat) {t e:TypeId} {x y:Operand} {b k n:Nat} {v:Value} {cs us:List Value} (cs':List Value) (w:(∀ a w,St w0 N F' L' a w→wpList P ops Q (⟨none,.store t x y,ty,pos,aft,none⟩::rest) a w)→∀ a w,St w0 N F L a w→R a w:=by exact wu)
 (hi:L'[i]?=some (Asn.blk b cs e):=by rfl) (hz:Sz P t n:=by infer_instance) (hx:ev F' x=some (ptr b k):=by exact ex) (hy:ev F' y=some v:=by exact ex) (hc:Cel v us:=by infer_instance) (hn:us.length=n:=by rfl) (h1:us.all Value.oneCell'=true:=by rfl) (hf:Nat.ble (k+n) cs.length=true:=by rfl) (hr:spl cs k us=cs':=by rfl)
 (c:∀ a w,St w0 N F' (L'.set i (Asn.blk b cs' e)) a w→wpList P ops Q rest a w):∀ a w,St w0 N F L a w→R a w:=w fun _ _ h=>st h i cs' hi hz.h hx hy hc.h hn h1 hf hr c
theorem xg {j dj:Nat} {want c b g:Bool} {v:Value} (w:(∀ a w,St w0 N F' L' a w→wpList P ops Q (⟨some d,op,ty,pos,aft,some (j,want)⟩::rest) a w)→∀ a w,St w0 N F L a w→R a w:=by exact wu) (hs:g=true→gW P w0 F' L' op (·=v) (fun _=>L'))
 (hj:(ops[j]?).bind (·.dst)=some dj:=by rfl) (hl:look F' dj=some (gv c (.bool b))∨(look F' dj=some (.bool b)∧c=true):=by first | exact .inl rfl | exact .inr ⟨rfl,rfl⟩) (hg:(c && (b == want))=g:=by first | exact g_t | exact g_f | exact g_ct | exact g_cf) (hd:Nat.blt d N=true:=by rfl)
 (k:∀ a w,St w0 N ((d,gv g v)::F') L' a w→wpList P ops Q rest a w):∀ a w,St w0 N F L a w→R a w:=w fun _ _ h=>by
 rcases hl with hl | ⟨hl,rfl⟩
 ·exact gd h hj hl hg hs hd k
 ·exact gd (c:=true) h hj hl hg hs hd k
theorem ai {c:Operand} {x y:Code} {b:Bool} (w:(∀ a w,St w0 N F' L' a w→(Code.cond c x y).wp P Q a w)→∀ a w,St w0 N F L a w→R a w:=by exact wu) (hc:ev F' c=some (.bool b):=by rfl) (ht:∀ a w,St w0 N F' L' a w→b=true→x.wp P Q a w) (hf:∀ a w,St w0 N F' L' a w→b=false→y.wp P Q a w) :
 ∀ a w,St w0 N F L a w→R a w:=w fun a w h=>kA h hc (ht a w h) (hf a w h)
end
section
variable {P:Program} {w0:World} {ol:List Oper} {D:List DOp} {H:List Hist}
def OB (P:Program) (w0:World) (ol:List Oper) (D:List DOp) (H:List Hist) (os:List Oper) (ds:List DOp) (i:Nat) (G G2:List (Nat×Value)):Prop:=Obl P w0 ol D H os ds i (fun _=>G)∧∀ ξ,endF os ds i ξ G=G2
variable {os:List Oper} {ds:List DOp} {i t:Nat} {G G2:List (Nat×Value)} {op:Op} {ty:TypeId} {pos:String} {aft:Array Edge} {g:Option (Nat×Bool)} {v:Value} {acc:List Nat}
theorem o_s (h:∀ ξ,ObS P w0 ol H (fun _=>G) ξ i ⟨some t,op,ty,pos,aft,g⟩ ⟨.det v,acc⟩) (k:OB P w0 ol D H os ds (i+1) ((t,v)::G) G2):OB P w0 ol D H (⟨some t,op,ty,pos,aft,g⟩::os) (⟨.det v,acc⟩::ds) i G G2 :=
 ⟨⟨fun ξ _=>h ξ,k.1⟩,k.2⟩
theorem o_n (h:∀ ξ,ObS P w0 ol H (fun _=>G) ξ i ⟨none,op,ty,pos,aft,g⟩ ⟨.det v,acc⟩) (k:OB P w0 ol D H os ds (i+1) G G2):OB P w0 ol D H (⟨none,op,ty,pos,aft,g⟩::os) (⟨.det v,acc⟩::ds) i G G2 :=
 ⟨⟨fun ξ _=>h ξ,k.1⟩,k.2⟩
theorem o_e:OB P w0 ol D H [] [] i G G:=⟨trivial,fun _=>rfl⟩
section
variable {ξ:Nat→Value} {GG:(Nat→Value)→List (Nat×Value)} {tl:TypeId} {xl:Operand} {dst:Option Tmp} {b k:Nat} {sv:Value} {q:Nat} {e:TypeId} {cs:List Value}
def LD (P:Program) (H:List Hist) (ξ:Nat→Value) (i:Nat) (acc:List Nat) (b k:Nat) (t:TypeId) (v:Value):Prop:=∃ cs e,dO H acc i ξ=[Asn.blk b cs e]∧dO H acc (i+1) (upd ξ i v)=[Asn.blk b cs e]∧L1 P cs e k t v
theorem ld (j:Nat) (h1:dO H [j] i ξ=[Asn.blk b cs e]) (h2:dO H [j] (i+1) (upd ξ i v)=[Asn.blk b cs e]) (h3:L1 P cs e k tl v):LD P H ξ i [j] b k tl v:=⟨cs,e,h1,h2,h3⟩
def LE (P:Program) (H:List Hist) (ξ:Nat→Value) (i:Nat) (acc:List Nat) (sv:Value) (q:Nat) (t:TypeId) (v:Value):Prop:=∃ (α:Type) (_:Cod α) (xs:List α) (e:TypeId),dO H acc i ξ=[Asn.row e sv xs]∧dO H acc (i+1) (upd ξ i v)=[Asn.row e sv xs]∧LR P xs e q t v
theorem le_ (j:Nat) {α:Type} [c:Cod α] {xs:List α} (h1:dO H [j] i ξ=[Asn.row e sv xs]) (h2:dO H [j] (i+1) (upd ξ i v)=[Asn.row e sv xs]) (h3:LR P xs e q tl v):LE P H ξ i [j] sv q tl v:=⟨α,c,xs,e,h1,h2,h3⟩
theorem ob_l (hx:ev (jk (GG ξ) (gF (.load tl xl))) xl=some (ptr b k)) (h:LD P H ξ i acc b k tl v):ObS P w0 ol H GG ξ i ⟨dst,.load tl xl,ty,pos,aft,none⟩ ⟨.det v,acc⟩:=by
 obtain ⟨cs,e,h1,h2,h3⟩:=h
 exact js _ h1 h2 (h3 w0 _ _ b hx)
theorem ob_e (hx:ev (jk (GG ξ) (gF (.load tl xl))) xl=some (sel sv q)) (h:LE P H ξ i acc sv q tl v):ObS P w0 ol H GG ξ i ⟨dst,.load tl xl,ty,pos,aft,none⟩ ⟨.det v,acc⟩:=by
 obtain ⟨α,c,xs,e,h1,h2,h3⟩:=h
 exact js _ h1 h2 (h3 w0 _ _ sv hx)
def LG (P:Program) (H:List Hist) (ξ:Nat→Value) (i:Nat) (acc:List Nat) (b k:Nat) (t:TypeId) (v:Value):Prop:=∃ cs e,dO H acc i ξ=[Asn.blk b cs e]∧(acc.all fun e=>match H[e]? with | some h=>h.steps.all fun p=>!(Nat.beq p.1 i) | none=>true)=true∧L1 P cs e k t v
theorem lg (j:Nat) (h1:dO H [j] i ξ=[Asn.blk b cs e]) (h2:([j].all fun e=>match H[e]? with | some h=>h.steps.all fun p=>!(Nat.beq p.1 i) | none=>true)=true) (h3:L1 P cs e k tl v):LG P H ξ i [j] b k tl v:=⟨cs,e,h1,h2,h3⟩
variable {j:Nat} {c g c' want:Bool}
theorem ob_lg (hl:look (GG ξ) (((ol[j]?).bind (·.dst)).getD 0)=some (gv c (.bool g))∨(look (GG ξ) (((ol[j]?).bind (·.dst)).getD 0)=some (.bool g)∧c=true)) (hd:((ol[j]?).bind (·.dst)).isSome=true) (hg:(c && (g == want))=c') (hx:c'=true→ev (jk (GG ξ) (gF (.load tl xl))) xl=some (ptr b k)) (h:LG P H ξ i acc b k tl v) :
 ObS P w0 ol H GG ξ i ⟨dst,.load tl xl,ty,pos,aft,some (j,want)⟩ ⟨.det (gv c' v),acc⟩:=by
 obtain ⟨cs,e,h1,h2,h3⟩:=h
 rcases hl with hl | ⟨hl,rfl⟩
 ·exact lI _ h1 h2 hl hd hg fun hg=>(h3 w0 _ _ b (hx hg)).step
 ·exact lI (c:=true) _ h1 h2 hl hd hg fun hg=>(h3 w0 _ _ b (hx hg)).step
def LF (P:Program) (H:List Hist) (ξ:Nat→Value) (i:Nat) (acc:List Nat) (sv:Value) (q:Nat) (t:TypeId) (v:Value) (c:Bool):Prop:=∃ (α:Type) (_:Cod α) (xs:List α) (e:TypeId),dO H acc i ξ=[Asn.row e sv xs]∧(acc.all fun e=>match H[e]? with | some h=>h.steps.all fun p=>!(Nat.beq p.1 i) | none=>true)=true∧(c=true→LR P xs e q t v)
theorem lf (j:Nat) {α:Type} [co:Cod α] {xs:List α} (h1:dO H [j] i ξ=[Asn.row e sv xs]) (h2:([j].all fun e=>match H[e]? with | some h=>h.steps.all fun p=>!(Nat.beq p.1 i) | none=>true)=true) (h3:c=true→LR P xs e q tl v):LF P H ξ i [j] sv q tl v c:=⟨α,co,xs,e,h1,h2,h3⟩
theorem ob_lf (hl:look (GG ξ) (((ol[j]?).bind (·.dst)).getD 0)=some (gv c (.bool g))∨(look (GG ξ) (((ol[j]?).bind (·.dst)).getD 0)=some (.bool g)∧c=true)) (hd:((ol[j]?).bind (·.dst)).isSome=true) (hg:(c && (g == want))=c') (hx:c'=true→ev (jk (GG ξ) (gF (.load tl xl))) xl=some (sel sv q)) (h:LF P H ξ i acc sv q tl v c') :
 ObS P w0 ol H GG ξ i ⟨dst,.load tl xl,ty,pos,aft,some (j,want)⟩ ⟨.det (gv c' v),acc⟩:=by
 obtain ⟨α,co,xs,e,h1,h2,h3⟩:=h
 rcases hl with hl | ⟨hl,rfl⟩
 ·exact lI _ h1 h2 hl hd hg fun hg=>(h3 hg w0 _ _ sv (hx hg)).step
 ·exact lI (c:=true) _ h1 h2 hl hd hg fun hg=>(h3 hg w0 _ _ sv (hx hg)).step
def LS (P:Program) (H:List Hist) (ξ:Nat→Value) (i:Nat) (acc:List Nat) (b k:Nat) (t:TypeId) (u:Value):Prop:=∃ cs e cs' us n,dO H acc i ξ=[Asn.blk b cs e]∧dO H acc (i+1) (upd ξ i undef)=[Asn.blk b cs' e]∧(∀ w,(sizeOf t).run P w=.ok n w)∧u.cells.toList=us∧us.length=n∧us.all Value.oneCell'=true∧Nat.ble (k+n) cs.length=true∧spl cs k us=cs'
theorem ls_ (j:Nat) {cs' us:List Value} {u:Value} {n:Nat} (h1:dO H [j] i ξ=[Asn.blk b cs e]) (h2:dO H [j] (i+1) (upd ξ i undef)=[Asn.blk b cs' e]) [hz:Sz P tl n] [hc:Cel u us] (hn:us.length=n) (ho:us.all Value.oneCell'=true) (hf:Nat.ble (k+n) cs.length=true) (hr:spl cs k us=cs'):LS P H ξ i [j] b k tl u:=⟨cs,e,cs',us,n,h1,h2,hz.h,hc.h,hn,ho,hf,hr⟩
theorem ob_st {yl:Operand} {u:Value} (hx:ev (jk (GG ξ) (gF (.store tl xl yl))) xl=some (ptr b k)) (hy:ev (jk (GG ξ) (gF (.store tl xl yl))) yl=some u) (h:LS P H ξ i acc b k tl u):ObS P w0 ol H GG ξ i ⟨dst,.store tl xl yl,ty,pos,aft,none⟩ ⟨.det undef,acc⟩:=by
 obtain ⟨cs,e,cs',us,n,h1,h2,h3,h4,h5,h6,h7,h8⟩:=h
 exact m0 _ _ h1 h2 (qp h3 hx hy h4 h5 h6 h7 h8)
end
section
variable {ξ:Nat→Value} {GG:(Nat→Value)→List (Nat×Value)} {dst:Option Tmp}
theorem ob_al (j:Nat) {t:TypeId} {cs:List Value} [hz:Zc P t cs] (hA:dO H [j] i ξ=[.emp]) (hA':∀ b,dO H [j] (i+1) (upd ξ i (ptr b 0))=[Asn.blk b cs t]):ObS P w0 ol H GG ξ i ⟨dst,.alloc t,ty,pos,aft,none⟩ ⟨.nd (.one i fun v=>∃ b,v=ptr b 0),[j]⟩:=by
 obtain ⟨z,hz,hc⟩:=hz.h
 refine mo (ψ:=fun v=>∃ b,v=ptr b 0) (B:=fun v=>[Asn.blk (ch v) cs t]) [.emp] hA (fun v hv=>?_) (fun v hv=>?_) (jX (gY hz hc))
 ·obtain ⟨b,rfl⟩:=hv; exact hA' b
 ·show ∃ b,upd ξ i v i=ptr b 0
  rw [bA]; exact hv
theorem ob_sa (j:Nat) {q:Nat} {t e:TypeId} {x y:Operand} {u:Value} {cs us:List Value} {n:Nat} (hb:∃ b,ξ q=ptr b 0) (hx:ev (jk (GG ξ) (gF (.store t x y))) x=some (ξ q)) (hy:ev (jk (GG ξ) (gF (.store t x y))) y=some u) [hz:Sz P t n] [hc:Cel u us]
 (hA:dO H [j] i ξ=[Asn.blk (ch (ξ q)) cs e]) (hA':dO H [j] (i+1) (upd ξ i undef)=[Asn.blk (ch (ξ q)) us e]) (hn:us.length=n) (ho:us.all Value.oneCell'=true) (hf:cs.length=n):ObS P w0 ol H GG ξ i ⟨dst,.store t x y,ty,pos,aft,none⟩ ⟨.det undef,[j]⟩:=by
 obtain ⟨b,hb⟩:=hb
 rw [hb] at hx hA hA'
 exact m0 _ _ hA hA' (qp hz.h hx hy hc.h hn ho (by rw [hf,Nat.zero_add]; exact Nat.ble_self_eq_true n) (by simp [spl,hn,hf]))
end
theorem oA {R:(Nat→Value)→Prop} {S:(Nat→Value)→Prop} (h:∀ ξ,S ξ):∀ ξ,R ξ→S ξ:=fun ξ _=>h ξ
theorem obA {p:Prop} (h:p:=by
 intro ξ
 first | (apply ob_l; exact ex; (first | exact ld 0 rfl rfl l1A | exact ld 1 rfl rfl l1A | exact ld 2 rfl rfl l1A | exact ld 3 rfl rfl l1A | exact ld 4 rfl rfl l1A | exact ld 5 rfl rfl l1A | exact ld 6 rfl rfl l1A | exact ld 7 rfl rfl l1A | exact ld 8 rfl rfl l1A | exact ld 9 rfl rfl l1A | exact ld 10 rfl rfl l1A | exact ld 11 rfl rfl l1A)) | (apply ob_e; exact ex; (first | exact le_ 0 rfl rfl lrA | exact le_ 1 rfl rfl lrA | exact le_ 2 rfl rfl lrA | exact le_ 3 rfl rfl lrA | exact le_ 4 rfl rfl lrA | exact le_ 5 rfl rfl lrA | exact le_ 6 rfl rfl lrA | exact le_ 7 rfl rfl lrA | exact le_ 8 rfl rfl lrA)) | exact bg rdA | exact oh (acc:=[]) rfl rfl rfl rfl (fun hg=>rdA) | exact og2 (acc:=[]) rfl rfl rfl rfl (fun hg=>Rd.step rdA) | exact og3 (acc:=[]) rfl rfl rfl rfl (fun hg=>Rd.step rdA) | exact og4 (acc:=[]) rfl rfl rfl rfl (fun hg=>Rd.step rdA) | (apply ob_lg; (first | exact .inl rfl | exact .inr ⟨rfl,rfl⟩); exact rfl; (first | exact g_t | exact g_f | exact g_ct | exact g_cf); exact fun hg=>ex; (first | exact lg 0 rfl rfl l1A | exact lg 1 rfl rfl l1A | exact lg 2 rfl rfl l1A | exact lg 3 rfl rfl l1A | exact lg 4 rfl rfl l1A | exact lg 5 rfl rfl l1A | exact lg 6 rfl rfl l1A | exact lg 7 rfl rfl l1A | exact lg 8 rfl rfl l1A)) | (apply ob_lf; (first | exact .inl rfl | exact .inr ⟨rfl,rfl⟩); exact rfl; (first | exact g_t | exact g_f | exact g_ct | exact g_cf); exact fun hg=>ex; (first | exact lf 0 rfl rfl (fun hg=>lrA) | exact lf 1 rfl rfl (fun hg=>lrA) | exact lf 2 rfl rfl (fun hg=>lrA) | exact lf 3 rfl rfl (fun hg=>lrA) | exact lf 4 rfl rfl (fun hg=>lrA) | exact lf 5 rfl rfl (fun hg=>lrA) | exact lf 6 rfl rfl (fun hg=>lrA) | exact lf 7 rfl rfl (fun hg=>lrA) | exact lf 8 rfl rfl (fun hg=>lrA))) | (apply ob_st; exact ex; exact ex; (first | exact ls_ 0 rfl rfl rfZ rfZ rfZ rfZ | exact ls_ 1 rfl rfl rfZ rfZ rfZ rfZ | exact ls_ 2 rfl rfl rfZ rfZ rfZ rfZ | exact ls_ 3 rfl rfl rfZ rfZ rfZ rfZ | exact ls_ 4 rfl rfl rfZ rfZ rfZ rfZ | exact ls_ 5 rfl rfl rfZ rfZ rfZ rfZ | exact ls_ 6 rfl rfl rfZ rfZ rfZ rfZ | exact ls_ 7 rfl rfl rfZ rfZ rfZ rfZ | exact ls_ 8 rfl rfl rfZ rfZ rfZ rfZ | exact ls_ 9 rfl rfl rfZ rfZ rfZ rfZ | exact ls_ 10 rfl rfl rfZ rfZ rfZ rfZ | exact ls_ 11 rfl rfl rfZ rfZ rfZ rfZ))):p:=h
theorem oE (w:OB P w0 ol D H os ds i G G2:=by
 repeat (first | exact o_e | (apply o_s; exact obA) | (apply o_n; exact obA))):OB P w0 ol D H os ds i G G2:=w
section
variable {G':List (Nat×Value)} {os':List Oper} {ds':List DOp} {i':Nat}
theorem owA {p:Prop} (h:p:=by
 intro k
 repeat (first | (apply o_s; exact obA) | (apply o_n; exact obA))
 exact k):p:=h
theorem oK {f:FuncId} {vs:List Value} {p:Prop} (ct:∀ w,Calls P f vs.toArray w (RetP w v p)) (w:OB P w0 ol D H (⟨some t,op,ty,pos,aft,none⟩::os') (⟨.det v,[]⟩::ds') i' G' G2→OB P w0 ol D H os ds i G G2:=by exact owA) (he:Ent P (jk G' (gF op)) op f vs:=by exact enA)
 (k:OB P w0 ol D H os' ds' (i'+1) ((t,v)::G') G2):OB P w0 ol D H os ds i G G2:=w (o_s (fun _=>kD (fB he (kk ct))) k)
theorem oG {f:FuncId} {vs:List Value} {p:Prop} {j:Nat} {c want b g:Bool} (ct:g=true→∀ w,Calls P f vs.toArray w (RetP w v p)) (w:OB P w0 ol D H (⟨some t,op,ty,pos,aft,some (j,want)⟩::os') (⟨.det (gv g v),[]⟩::ds') i' G' G2→OB P w0 ol D H os ds i G G2:=by exact owA)
 (hl:look G' (((ol[j]?).bind (·.dst)).getD 0)=some (gv c (.bool b))∨(look G' (((ol[j]?).bind (·.dst)).getD 0)=some (.bool b)∧c=true):=by first | exact .inl rfl | exact .inr ⟨rfl,rfl⟩) (hd:((ol[j]?).bind (·.dst)).isSome=true:=by rfl) (hg:(c && (b == want))=g:=by first | exact g_t | exact g_f | exact g_ct | exact g_cf)
 (he:g=true→Ent P (jk G' (gF op)) op f vs:=by intro hg; exact enA)
 (k:OB P w0 ol D H os' ds' (i'+1) ((t,gv g v)::G') G2):OB P w0 ol D H os ds i G G2:=w (o_s (fun _=>by
   rcases hl with hl | ⟨hl,rfl⟩
   ·exact lI [] rfl rfl hl hd hg (fun e=>fB (he e) (kk (ct e)))
   ·exact lI (c:=true) [] rfl rfl hl hd hg (fun e=>fB (he e) (kk (ct e)))) k)
theorem oY (w:OB P w0 ol D H (⟨none,op,ty,pos,aft,g⟩::os') (⟨.det v,acc⟩::ds') i' G' G2→OB P w0 ol D H os ds i G G2:=by exact owA) (h:∀ ξ,ObS P w0 ol H (fun _=>G') ξ i' ⟨none,op,ty,pos,aft,g⟩ ⟨.det v,acc⟩)
 (k:OB P w0 ol D H os' ds' (i'+1) G' G2):OB P w0 ol D H os ds i G G2:=w (o_n h k)
theorem oX (w:OB P w0 ol D H (⟨some t,op,ty,pos,aft,g⟩::os') (⟨.det v,acc⟩::ds') i' G' G2→OB P w0 ol D H os ds i G G2:=by exact owA) (h:∀ ξ,ObS P w0 ol H (fun _=>G') ξ i' ⟨some t,op,ty,pos,aft,g⟩ ⟨.det v,acc⟩)
 (k:OB P w0 ol D H os' ds' (i'+1) ((t,v)::G') G2):OB P w0 ol D H os ds i G G2:=w (o_s h k)
end
end
section
variable {P:Program} {w0:World} {N:Nat} {F F':List (Nat×Value)} {L L':List Asn} {ol:List Oper} {D:List DOp} {Q:Exit→Act→World→Prop} {R:Act→World→Prop} {id:Nat} {G2:List (Nat×Value)}
theorem hLA {p:Prop} (h:p:=by
 intro ξ
 simp only [List.map_cons,List.map_nil,Hist.at,List.foldl_cons,List.foldl_nil,cond_true,DF.con]
 try rfl):p:=h
theorem dr1 {H:List Hist} {L2:List Asn} (w:(∀ a w,St w0 N F' L' a w→(Code.region id ol.toArray true).wp P Q a w)→∀ a w,St w0 N F L a w→R a w:=by exact wu) (hL:H.map (·.init)=L':=by rfl) (hob:OB P w0 ol D H ol D 0 F' G2) (hm:P.follows .mixedOrders=true:=by exact mixed)
 (hc:(chk ol D H && D.all (fun d=>tE d.acc) && yY ol N)=true:=by kernel_rfl) (hL2:∀ ξ,(H.map fun h=>h.at (fun _=>true) ξ)=L2:=by exact hLA) (k:∀ a w,St w0 N G2 L2 a w→Q .normal a w):∀ a w,St w0 N F L a w→R a w:=w fun a w h =>
 im hm D H h hL hc hob.1 fun ξ a w _ h=>k a w (by rw [hob.2 ξ,hL2 ξ] at h; exact h)
theorem dr0 (w:(∀ a w,St w0 N F' L' a w→(Code.region id ol.toArray true).wp P Q a w)→∀ a w,St w0 N F L a w→R a w:=by exact wu) (hob:OB P w0 ol D (L'.map fun r=>⟨r,[]⟩) ol D 0 F' G2) (hm:P.follows .mixedOrders=true:=by exact mixed)
 (hc:(chk ol D (L'.map fun r=>⟨r,[]⟩) && D.all (fun d=>tE d.acc) && yY ol N)=true:=by kernel_rfl) (k:∀ a w,St w0 N G2 L' a w→Q .normal a w):∀ a w,St w0 N F L a w→R a w:=w fun a w h =>
 im hm D (L'.map fun r=>⟨r,[]⟩) h (by rw [List.map_map]; exact List.map_id _) hc hob.1 fun ξ a w _ h=>k a w (by
  rw [hob.2 ξ,List.map_map] at h
  have:(List.map ((fun h=>Hist.at h (fun _=>true) ξ) ∘ fun r=>⟨r,[]⟩) L')=L':=List.map_id _
  rw [this] at h
  exact h)
end
attribute [irreducible] OB
end Go.Sx
namespace Go.Sx
open Go Go.RowKit Go.Proofs
set_option maxRecDepth 100000
instance:Sz zP 3 1:=⟨Tryz.sizeOf3⟩
instance:Sz zP 4 1:=⟨Tryz.sizeOf4⟩
instance:Sz zP 5 1:=⟨Tryz.sizeOf5⟩
instance:Sz zP 9 1:=⟨Tryz.sizeOf9⟩
instance:Sz zP 25 2:=⟨Tryz.sizeOf25⟩
instance:Sz zP 27 4:=⟨Tryz.sizeOf27⟩
instance:Sz zP 50 1:=⟨Tryz.sizeOf50⟩
instance:Sz zP 53 12:=⟨Tryz.sizeOf53⟩
instance:Sz zP 71 9:=⟨Tryz.sizeOf71⟩
instance:Sz zP 86 20:=⟨Tryz.sizeOf86⟩
instance:Sz zP 103 1:=⟨Tryz.sizeOf103⟩
instance:Sz zP 126 32:=⟨Tryz.sizeOf126⟩
instance:Sz zP 162 1:=⟨Tryz.sizeOf162⟩
instance:Sz zP 166 1:=⟨Tryz.sizeOf166⟩
instance:Sz zP 167 3:=⟨Tryz.sizeOf167⟩
instance:Sz zP 169 7:=⟨Tryz.sizeOf169⟩
instance:Sz zP 206 10:=⟨Tryz.sizeOf206⟩
instance:Sz zP 264 32:=⟨Tryz.sizeOf264⟩
instance:Sz zP 319 2:=⟨Tryz.sizeOf319⟩
instance:Sz zP 321 12:=⟨Tryz.sizeOf321⟩
instance:Sz zP 341 1:=⟨Tryz.sizeOf341⟩
instance:Ag zP 3 false:=⟨Tryz.isAgg3⟩
instance:Ag zP 4 false:=⟨Tryz.isAgg4⟩
instance:Ag zP 5 false:=⟨Tryz.isAgg5⟩
instance:Ag zP 9 false:=⟨Tryz.isAgg9⟩
instance:Ag zP 25 true:=⟨Tryz.isAgg25⟩
instance:Ag zP 27 true:=⟨Tryz.isAgg27⟩
instance:Ag zP 50 false:=⟨Tryz.isAgg50⟩
instance:Ag zP 53 true:=⟨Tryz.isAgg53⟩
instance:Ag zP 71 true:=⟨Tryz.isAgg71⟩
instance:Ag zP 86 true:=⟨Tryz.isAgg86⟩
instance:Ag zP 103 false:=⟨Tryz.isAgg103⟩
instance:Ag zP 126 true:=⟨Tryz.isAgg126⟩
instance:Ag zP 162 false:=⟨Tryz.isAgg162⟩
instance:Ag zP 166 false:=⟨Tryz.isAgg166⟩
instance:Ag zP 169 true:=⟨Tryz.isAgg169⟩
instance:Ag zP 206 true:=⟨Tryz.isAgg206⟩
instance:Ag zP 264 true:=⟨Tryz.isAgg264⟩
instance:Ag zP 321 true:=⟨Tryz.isAgg321⟩
instance:Ag zP 341 false:=⟨Tryz.isAgg341⟩
instance:Fl zP 25 0 4 0:=⟨⟨_,_,uu25,rfl,rfl,rfl⟩⟩
instance:Fl zP 25 1 9 1:=⟨⟨_,_,uu25,rfl,rfl,rfl⟩⟩
instance:Fl zP 27 0 25 0:=⟨⟨_,_,uu27,rfl,rfl,rfl⟩⟩
instance:Fl zP 27 1 25 2:=⟨⟨_,_,uu27,rfl,rfl,rfl⟩⟩
instance:Un zP 49 (.slice 169):=⟨Tryz.runUnderlying49⟩
instance:Un zP 50 (.slice 126):=⟨Tryz.runUnderlying50⟩
instance:Fl zP 53 0 27 0:=⟨⟨_,_,uu53,rfl,rfl,rfl⟩⟩
instance:Fl zP 53 1 27 4:=⟨⟨_,_,uu53,rfl,rfl,rfl⟩⟩
instance:Fl zP 53 2 27 8:=⟨⟨_,_,uu53,rfl,rfl,rfl⟩⟩
instance:Un zP 66 (.slice 71):=⟨Tryz.runUnderlying66⟩
instance:Fl zP 71 0 27 0:=⟨⟨_,_,uu71,rfl,rfl,rfl⟩⟩
instance:Fl zP 71 1 27 4:=⟨⟨_,_,uu71,rfl,rfl,rfl⟩⟩
instance:Fl zP 71 2 4 8:=⟨⟨_,_,uu71,rfl,rfl,rfl⟩⟩
instance:Fl zP 86 0 71 0:=⟨⟨_,_,uu86,rfl,rfl,rfl⟩⟩
instance:Fl zP 86 1 71 9:=⟨⟨_,_,uu86,rfl,rfl,rfl⟩⟩
instance:Fl zP 86 2 4 18:=⟨⟨_,_,uu86,rfl,rfl,rfl⟩⟩
instance:Fl zP 86 3 4 19:=⟨⟨_,_,uu86,rfl,rfl,rfl⟩⟩
instance:Un zP 103 (.slice 86):=⟨Tryz.runUnderlying103⟩
instance:Fl zP 126 0 86 0:=⟨⟨_,_,uu126,rfl,rfl,rfl⟩⟩
instance:Fl zP 126 1 53 20:=⟨⟨_,_,uu126,rfl,rfl,rfl⟩⟩
instance:Un zP 164 (.slice 264):=⟨Tryz.runUnderlying164⟩
instance:Un zP 167 (.array 3 166):=⟨Tryz.runUnderlying167⟩
instance:Fl zP 169 0 5 0:=⟨⟨_,_,uu169,rfl,rfl,rfl⟩⟩
instance:Fl zP 169 1 5 1:=⟨⟨_,_,uu169,rfl,rfl,rfl⟩⟩
instance:Fl zP 169 2 5 2:=⟨⟨_,_,uu169,rfl,rfl,rfl⟩⟩
instance:Fl zP 169 3 4 3:=⟨⟨_,_,uu169,rfl,rfl,rfl⟩⟩
instance:Fl zP 169 4 167 4:=⟨⟨_,_,uu169,rfl,rfl,rfl⟩⟩
instance:Fl zP 206 0 71 0:=⟨⟨_,_,uu206,rfl,rfl,rfl⟩⟩
instance:Fl zP 206 1 4 9:=⟨⟨_,_,uu206,rfl,rfl,rfl⟩⟩
instance:Fl zP 264 0 71 0:=⟨⟨_,_,uu264,rfl,rfl,rfl⟩⟩
instance:Fl zP 264 1 71 9:=⟨⟨_,_,uu264,rfl,rfl,rfl⟩⟩
instance:Fl zP 264 2 4 18:=⟨⟨_,_,uu264,rfl,rfl,rfl⟩⟩
instance:Fl zP 264 3 4 19:=⟨⟨_,_,uu264,rfl,rfl,rfl⟩⟩
instance:Fl zP 264 4 53 20:=⟨⟨_,_,uu264,rfl,rfl,rfl⟩⟩
instance:Un zP 317 (.slice 321):=⟨Tryz.runUnderlying317⟩
instance:Un zP 318 (.slice 103):=⟨Tryz.runUnderlying318⟩
instance:Un zP 319 (.array 2 3):=⟨Tryz.runUnderlying319⟩
instance:Fl zP 321 0 206 0:=⟨⟨_,_,uu321,rfl,rfl,rfl⟩⟩
instance:Fl zP 321 1 319 10:=⟨⟨_,_,uu321,rfl,rfl,rfl⟩⟩
instance:Un zP 334 (.array 8 5):=⟨Tryz.runUnderlying334⟩
instance:Un zP 335 (.slice 5):=⟨Tryz.runUnderlying335⟩
instance:Un zP 339 (.slice 341):=⟨Tryz.runUnderlying339⟩
instance:Un zP 358 (.slice 3):=⟨Tryz.runUnderlying358⟩
instance:Pp zP 216:=⟨Tryz.underlying216⟩
instance:Zc zP 25 (cI (⟨false,0⟩:GI)):=⟨⟨_,Tryz.zeroValue25,rfl⟩⟩
instance:Zc zP 27 (cQ oQ):=⟨⟨_,Tryz.zeroValue27,rfl⟩⟩
instance:Zc zP 50 [.slice none 0 0]:=⟨⟨_,Tryz.zeroValue50,rfl⟩⟩
instance:Zc zP 53 (cD oD):=⟨⟨_,Tryz.zeroValue53,rfl⟩⟩
instance:Zc zP 71 (cR (⟨oQ,oQ,false⟩:GR)):=⟨⟨_,Tryz.zeroValue71,rfl⟩⟩
instance:Zc zP 86 (cV (⟨(⟨oQ,oQ,false⟩:GR),(⟨oQ,oQ,false⟩:GR),false,false⟩:Iv)):=⟨⟨_,Tryz.zeroValue86,rfl⟩⟩
instance:Zc zP 126 (cUD (⟨(⟨(⟨oQ,oQ,false⟩:GR),(⟨oQ,oQ,false⟩:GR),false,false⟩:Iv),oD⟩:U Qd)):=⟨⟨_,Tryz.zeroValue126,rfl⟩⟩
instance:Zc zP 169 (cS (⟨0,0,0,false,0,0,0⟩:Stp)):=⟨⟨_,Tryz.zeroValue169,rfl⟩⟩
instance:Zc zP 206 (cW (⟨(⟨oQ,oQ,false⟩:GR),false⟩:Bd)):=⟨⟨_,Tryz.zeroValue206,rfl⟩⟩
instance:Zc zP 264 (cAD (⟨(⟨oQ,oQ,false⟩:GR),(⟨oQ,oQ,false⟩:GR),false,false,oD⟩:At Qd)):=⟨⟨_,Tryz.zeroValue264,rfl⟩⟩
instance:Zc zP 319 (cJ (⟨0,0⟩:I2)):=⟨⟨_,Tryz.zeroValue319,rfl⟩⟩
instance:Zc zP 321 (cE (⟨(⟨(⟨oQ,oQ,false⟩:GR),false⟩:Bd),0,0⟩:Ev)):=⟨⟨_,Tryz.zeroValue321,rfl⟩⟩
instance:Zc zP 334 (flat (List.replicate 8 (0:UInt8))):=⟨⟨_,Tryz.zeroValue334,rfl⟩⟩
instance:Cf zP 20:=⟨Tryz.call20⟩
instance:Cf zP 21:=⟨Tryz.call21⟩
instance:Cf zP 22:=⟨Tryz.call22⟩
instance:Cf zP 25:=⟨Tryz.call25⟩
instance:Cf zP 26:=⟨Tryz.call26⟩
instance:Cf zP 27:=⟨Tryz.call27⟩
instance:Cf zP 30:=⟨Tryz.call30⟩
instance:Cf zP 34:=⟨Tryz.call34⟩
instance:Cf zP 35:=⟨Tryz.call35⟩
instance:Cf zP 36:=⟨Tryz.call36⟩
instance:Cf zP 38:=⟨Tryz.call38⟩
instance:Cf zP 39:=⟨Tryz.call39⟩
instance:Cf zP 44:=⟨Tryz.call44⟩
instance:Cf zP 55:=⟨Tryz.call55⟩
instance:Cf zP 56:=⟨Tryz.call56⟩
instance:Cf zP 61:=⟨Tryz.call61⟩
instance:Cf zP 62:=⟨Tryz.call62⟩
instance:Cf zP 63:=⟨Tryz.call63⟩
instance:Cf zP 77:=⟨Tryz.call77⟩
instance:Cf zP 85:=⟨Tryz.call85⟩
instance:Cf zP 86:=⟨Tryz.call86⟩
instance:Cf zP 87:=⟨Tryz.call87⟩
instance:Cf zP 88:=⟨Tryz.call88⟩
instance:Cf zP 92:=⟨Tryz.call92⟩
instance:Cf zP 93:=⟨Tryz.call93⟩
instance:Cf zP 94:=⟨Tryz.call94⟩
instance:Cf zP 95:=⟨Tryz.call95⟩
instance:Cf zP 96:=⟨Tryz.call96⟩
instance:Cf zP 97:=⟨Tryz.call97⟩
instance:Cf zP 98:=⟨Tryz.call98⟩
instance:Cf zP 101:=⟨Tryz.call101⟩
instance:Cf zP 107:=⟨Tryz.call107⟩
instance:Cf zP 108:=⟨Tryz.call108⟩
instance:Cf zP 109:=⟨Tryz.call109⟩
instance:Cf zP 110:=⟨Tryz.call110⟩
instance:Cf zP 111:=⟨Tryz.call111⟩
instance:Cf zP 112:=⟨Tryz.call112⟩
instance:Cf zP 113:=⟨Tryz.call113⟩
instance:Cf zP 115:=⟨Tryz.call115⟩
instance:Cf zP 117:=⟨Tryz.call117⟩
instance:Cf zP 118:=⟨Tryz.call118⟩
instance:Cf zP 121:=⟨Tryz.call121⟩
instance:Cf zP 122:=⟨Tryz.call122⟩
instance:Cf zP 123:=⟨Tryz.call123⟩
instance:Cf zP 124:=⟨Tryz.call124⟩
instance:Cf zP 127:=⟨Tryz.call127⟩
instance:Cf zP 128:=⟨Tryz.call128⟩
instance:Cf zP 129:=⟨Tryz.call129⟩
instance:Cf zP 130:=⟨Tryz.call130⟩
instance:Cf zP 131:=⟨Tryz.call131⟩
instance:Cf zP 134:=⟨Tryz.call134⟩
instance:Cf zP 135:=⟨Tryz.call135⟩
instance:Cf zP 136:=⟨Tryz.call136⟩
instance:Cf zP 137:=⟨Tryz.call137⟩
instance:Cf zP 148:=⟨Tryz.call148⟩
instance:Cf zP 149:=⟨Tryz.call149⟩
instance:Cf zP 150:=⟨Tryz.call150⟩
instance:Cf zP 151:=⟨Tryz.call151⟩
instance:Cf zP 152:=⟨Tryz.call152⟩
instance:Cf zP 156:=⟨Tryz.call156⟩
instance:Cf zP 157:=⟨Tryz.call157⟩
instance:Cf zP 158:=⟨Tryz.call158⟩
instance:Cf zP 159:=⟨Tryz.call159⟩
instance:Cf zP 160:=⟨Tryz.call160⟩
instance:Cf zP 161:=⟨Tryz.call161⟩
instance:Cf zP 178:=⟨Tryz.call178⟩
instance:Cf zP 179:=⟨Tryz.call179⟩
instance:Cf zP 180:=⟨Tryz.call180⟩
instance:Cf zP 181:=⟨Tryz.call181⟩
instance:Cf zP 187:=⟨Tryz.call187⟩
instance:Cf zP 190:=⟨Tryz.call190⟩
instance:Cf zP 191:=⟨Tryz.call191⟩
instance:Cf zP 192:=⟨Tryz.call192⟩
instance:Cf zP 193:=⟨Tryz.call193⟩
instance:Cf zP 194:=⟨Tryz.call194⟩
instance:Cf zP 195:=⟨Tryz.call195⟩
instance:Cf zP 196:=⟨Tryz.call196⟩
instance:Cf zP 207:=⟨Tryz.call207⟩
instance:Cf zP 208:=⟨Tryz.call208⟩
instance:Cf zP 209:=⟨Tryz.call209⟩
instance:Cf zP 210:=⟨Tryz.call210⟩
instance:Cf zP 211:=⟨Tryz.call211⟩
instance:Cf zP 212:=⟨Tryz.call212⟩
instance:Cf zP 213:=⟨Tryz.call213⟩
instance:Cf zP 219:=⟨Tryz.call219⟩
instance:Cf zP 223:=⟨Tryz.call223⟩
instance:Cf zP 224:=⟨Tryz.call224⟩
instance:Cf zP 225:=⟨Tryz.call225⟩
instance:Cf zP 226:=⟨Tryz.call226⟩
instance:Cf zP 227:=⟨Tryz.call227⟩
instance:Cf zP 228:=⟨Tryz.call228⟩
instance:Cf zP 231:=⟨Tryz.call231⟩
instance:Cf zP 232:=⟨Tryz.call232⟩
instance:Cf zP 243:=⟨Tryz.call243⟩
instance:Cf zP 244:=⟨Tryz.call244⟩
instance:Cf zP 245:=⟨Tryz.call245⟩
instance:Cf zP 246:=⟨Tryz.call246⟩
instance:Cf zP 247:=⟨Tryz.call247⟩
instance:Cf zP 249:=⟨Tryz.call249⟩
instance:Cf zP 250:=⟨Tryz.call250⟩
instance:Cf zP 251:=⟨Tryz.call251⟩
instance:Cf zP 252:=⟨Tryz.call252⟩
instance:Cf zP 253:=⟨Tryz.call253⟩
instance:Cf zP 255:=⟨Tryz.call255⟩
instance:Cf zP 257:=⟨Tryz.call257⟩
instance:Cf zP 258:=⟨Tryz.call258⟩
instance:Cf zP 259:=⟨Tryz.call259⟩
instance:Cf zP 260:=⟨Tryz.call260⟩
instance:Cf zP 266:=⟨Tryz.call266⟩
instance:Cf zP 267:=⟨Tryz.call267⟩
instance:Cf zP 268:=⟨Tryz.call268⟩
instance:Cf zP 276:=⟨Tryz.call276⟩
instance:Cf zP 279:=⟨Tryz.call279⟩
instance:Cf zP 280:=⟨Tryz.call280⟩
instance:Cf zP 281:=⟨Tryz.call281⟩
instance:Cf zP 282:=⟨Tryz.call282⟩
instance:Cf zP 283:=⟨Tryz.call283⟩
instance:Cf zP 284:=⟨Tryz.call284⟩
instance:Cf zP 285:=⟨Tryz.call285⟩
instance:Cf zP 286:=⟨Tryz.call286⟩
instance:Cf zP 287:=⟨Tryz.call287⟩
instance:Cf zP 288:=⟨Tryz.call288⟩
instance:Cf zP 294:=⟨Tryz.call294⟩
instance:Cf zP 295:=⟨Tryz.call295⟩
instance:Cf zP 297:=⟨Tryz.call297⟩
instance:Cf zP 305:=⟨Tryz.call305⟩
instance:Cf zP 306:=⟨Tryz.call306⟩
instance:Cf zP 316:=⟨Tryz.call316⟩
instance:Cf zP 333:=⟨Tryz.call333⟩
instance:Cf zP 366:=⟨Tryz.call366⟩
instance:Cf zP 367:=⟨Tryz.call367⟩
instance:Cf zP 368:=⟨Tryz.call368⟩
instance:Cf zP 369:=⟨Tryz.call369⟩
instance:Cf zP 370:=⟨Tryz.call370⟩
instance:Sh zP 3 GR vR:=⟨trivial⟩
instance:Sh zP 4 Qd vD:=⟨trivial⟩
instance:Sh zP 25 GI vI:=⟨trivial⟩
instance:Sh zP 27 GQ vQ:=⟨trivial⟩
instance:Sh zP 53 Qd vD:=⟨trivial⟩
instance:Sh zP 71 GR vR:=⟨trivial⟩
instance:Sh zP 86 Iv vV:=⟨trivial⟩
instance:Sh zP 126 (U Qd) vUD:=⟨trivial⟩
instance:Sh zP 169 Stp vS:=⟨trivial⟩
instance:Sh zP 206 Bd vW:=⟨trivial⟩
instance:Sh zP 264 (At Qd) vAD:=⟨trivial⟩
instance:Sh zP 321 Ev vE:=⟨trivial⟩
instance:Ub zP 4:=⟨Tryz.underlying4⟩
end Go.Sx
