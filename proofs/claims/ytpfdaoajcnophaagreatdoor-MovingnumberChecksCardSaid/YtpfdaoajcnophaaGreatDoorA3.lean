/- A part of the proof of movingnumberChecks. -/
import Derived.Test.YtpfdaoajcnophaaGreatDoorA2
import Derived.KernelRfl
import Derived.Laws.BytesString
import Derived.Laws.Externs
import Derived.Laws.CopyRow
import Derived.Laws.IdiomCopy
import Derived.Lib.BitFns
import Derived.Laws.Bits64
import Derived.Laws.BitsLemmas
import Derived.Lib.TrimByte
set_option linter.unusedVariables false
set_option linter.unusedSimpArgs false
namespace Go.Sx
open Go Go.RowKit
def leF:Nat→Nat→List UInt8
 | 0,_=>[]
 | f+1,n=>bif Nat.beq n 0 then [] else UInt8.ofNat (n % 256)::leF f (n / 256)
def le (n:Nat):List UInt8:=leF n n
def bs (n:Nat):ByteArray:=⟨(le n).reverse.toArray⟩
def sZ:List UInt8→Nat
 | []=>0
 | b::l=>b.toNat+256*sZ l
theorem mj (f:Nat):leF f 0=[]:=by cases f <;> rfl
theorem vr:∀ (f n:Nat),n≤f→sZ (leF f n)=n
 | 0,n,h=>by have:n=0:=by omega
             subst this; rfl
 | f+1,n,h=>by
  unfold leF
  cases hb:Nat.beq n 0 with
  | true=>rw [Nat.eq_of_beq_eq_true hb]; rfl
  | false =>
   have hn:n≠0:=fun e=>by subst e; simp at hb
   simp only [cond_false,sZ]
   rw [vr f (n / 256) (by omega)]
   have:(UInt8.ofNat (n % 256)).toNat=n % 256:=by
    rw [UInt8.toNat_ofNat']
    omega
   rw [this]
   omega
theorem rG (n:Nat):sZ (le n)=n:=vr n n (Nat.le_refl n)
theorem le_inj {m n:Nat} (h:le m=le n):m=n:=by rw [← rG m,h,rG]
theorem bs_inj {m n:Nat} (h:bs m=bs n):m=n:=by
 unfold bs at h
 have h1:(le m).reverse.toArray=(le n).reverse.toArray:=by injection h
 have h2:(le m).reverse=(le n).reverse:=by injection h1
 exact le_inj (List.reverse_inj.1 h2)
theorem bs_eq (m n:Nat):decide (bs m=bs n)=decide (m=n):=by
 by_cases h:m=n
 · simp [h]
 · have:bs m≠bs n:=fun e=>h (bs_inj e)
   simp [h,this]
theorem bs_beq (m n:Nat):((bs m).toList == (bs n).toList)=decide (m=n):=by rw [pk,bs_eq]
structure GI where
 neg:Bool
 mag:Nat
 deriving DecidableEq
structure GQ where
 num:GI
 den:GI
 deriving DecidableEq
structure GR where
 p:GQ
 r:GQ
 neg:Bool
 deriving DecidableEq
structure Iv where
 lo:GR
 hi:GR
 openLo:Bool
 openHi:Bool
 deriving DecidableEq
structure Qd where
 c0:GQ
 c1:GQ
 c2:GQ
 deriving DecidableEq
structure Ln where
 x0:GQ
 x1:GQ
 y0:GQ
 y1:GQ
 deriving DecidableEq
structure U (α:Type) where
 iv:Iv
 f:α
 deriving DecidableEq
def cI (x:GI):List Value:=[.bool x.neg,.string (bs x.mag)]
def cQ (x:GQ):List Value:=cI x.num++cI x.den
def cR (x:GR):List Value:=cQ x.p++(cQ x.r++[.bool x.neg])
def cV (x:Iv):List Value:=cR x.lo++(cR x.hi++[.bool x.openLo,.bool x.openHi])
def cD (x:Qd):List Value:=cQ x.c0++(cQ x.c1++cQ x.c2)
def cN (x:Ln):List Value:=cQ x.x0++(cQ x.x1++(cQ x.y0++cQ x.y1))
def cUI (x:U Int):List Value:=cV x.iv++[.int .i64 x.f]
def cUD (x:U Qd):List Value:=cV x.iv++cD x.f
def cUN (x:U Ln):List Value:=cV x.iv++cN x.f
def vI (x:GI):Value:=.agg (cI x).toArray
def vQ (x:GQ):Value:=.agg (cQ x).toArray
def vR (x:GR):Value:=.agg (cR x).toArray
def vV (x:Iv):Value:=.agg (cV x).toArray
def vD (x:Qd):Value:=.agg (cD x).toArray
def vUD (x:U Qd):Value:=.agg (cUD x).toArray
instance yA3_1:Cod GI:=⟨cI,2,fun _=>rfl,fun x c h=>by simp [cI] at h; rcases h with rfl | rfl <;> rfl,by decide⟩
theorem wO (x:GQ):∀ c∈cQ x,c.oneCell'=true:=fun c h=>(List.mem_append.1 h).elim (Cod.one (α:=GI) _ c) (Cod.one (α:=GI) _ c)
instance yA3_2:Cod GQ:=⟨cQ,4,fun _=>rfl,wO,by decide⟩
theorem dB {A B:List Value} (hA:∀ c∈A,c.oneCell'=true) (hB:∀ c∈B,c.oneCell'=true):∀ c∈A++B,c.oneCell'=true:=fun c h=>(List.mem_append.1 h).elim (hA c) (hB c)
theorem yy (x:GR):∀ c∈cR x,c.oneCell'=true:=dB (wO _) (dB (wO _) (by simp [Value.oneCell']))
instance yA3_3:Cod GR:=⟨cR,9,fun _=>rfl,yy,by decide⟩
theorem oneV (x:Iv):∀ c∈cV x,c.oneCell'=true:=dB (yy _) (dB (yy _) (by simp [Value.oneCell']))
instance yA3_4:Cod Iv:=⟨cV,20,fun _=>rfl,oneV,by decide⟩
theorem oneD (x:Qd):∀ c∈cD x,c.oneCell'=true:=dB (wO _) (dB (wO _) (wO _))
instance yA3_5:Cod Qd:=⟨cD,12,fun _=>rfl,oneD,by decide⟩
theorem oneN (x:Ln):∀ c∈cN x,c.oneCell'=true:=dB (wO _) (dB (wO _) (dB (wO _) (wO _)))
instance yA3_6:Cod Ln:=⟨cN,16,fun _=>rfl,oneN,by decide⟩
instance yA3_7:Cod (U Int):=⟨cUI,21,fun _=>rfl,fun x=>dB (oneV _) (by simp [Value.oneCell']),by decide⟩
instance yA3_8:Cod (U Qd):=⟨cUD,32,fun _=>rfl,fun x=>dB (oneV _) (oneD _),by decide⟩
instance yA3_9:Cod (U Ln):=⟨cUN,36,fun _=>rfl,fun x=>dB (oneV _) (oneN _),by decide⟩
section
variable {P:Program}
def EqIn (P:Program) (k:Nat) (t:TypeId) {α:Type} [DecidableEq α] (val:α→Value):Prop:=∀ (d:Nat) (x y:α) (w:World),k≤d→(Op.equalIn d t (val x) (val y)).run P w=.ok (decide (x=y)) w
theorem EqIn.p {t:TypeId} {k:Nat} (hk:Nat.ble k 10000=true) {α:Type} [DecidableEq α] {val:α→Value} {c:α→Array Value} (hv:∀ x,val x=.agg (c x)) (hg:P.eqGuardType P.depth t=false) (h:EqIn P k t val):EqP P t val:=by
 intro x y ox oy w
 have h0:=h 10000 x y w (Nat.le_of_ble_eq_true hk)
 rw [hv,hv] at h0 ⊢
 refine ⟨run_eqGuard_agg w _ t ox oy _ _ hg,run_eqGuard_agg w _ t ox oy _ _ hg,?_,?_⟩
 · rw [run_eql_struct,h0]; rfl
 · rw [run_neq_struct,h0]; rfl
theorem eqB {t:TypeId} (h:P.underlying t=some .bool) (d:Nat) (hd:1≤d) (a b:Bool) (w:World):(Op.equalIn d t (.bool a) (.bool b)).run P w=.ok (decide (a=b)) w:=by
 obtain ⟨d',rfl⟩:∃ d',d=d'+1:=⟨d - 1,by omega⟩
 rw [run_equalIn_bool' w d' t a b h]
 cases a <;> cases b <;> rfl
theorem eqBs {t:TypeId} (h:P.underlying t=some .string) (d:Nat) (hd:1≤d) (a b:Nat) (w:World):(Op.equalIn d t (.string (bs a)) (.string (bs b))).run P w=.ok (decide (a=b)) w:=by
 obtain ⟨d',rfl⟩:∃ d',d=d'+1:=⟨d - 1,by omega⟩
 rw [run_equalIn_string w d' t _ _ h,bs_beq]
theorem eqF {d : Nat} {f : Field} {fs : List Field} {xs ys : Array Value} {a b : Value} {p q : Prop} [Decidable p] [Decidable q] {w : World} (hn : f.name ≠ "_") (ha : (part f.type xs f.offset).run P w = .ok a w) (hb : (part f.type ys f.offset).run P w = .ok b w)
 (he:(Op.equalIn d f.type a b).run P w=.ok (decide p) w) (hr:(Op.eqFields d xs ys fs).run P w=.ok (decide q) w):(Op.eqFields d xs ys (f::fs)).run P w=.ok (decide (p∧q)) w:=by
 simp only [Op.eqFields,hn,ne_eq,not_false_eq_true,if_true,Sem.run_bind,ha,hb,he,Result.andThen_ok]
 by_cases hp:p <;> by_cases hq:q <;> simp [hp,hq,hr]
theorem wY {d:Nat} {xs ys:Array Value} {w:World}:(Op.eqFields d xs ys []).run P w=.ok (decide True) w:=by simp [Op.eqFields]
theorem bY {t:TypeId} {n o:Nat} {cs:List Value} {v:Value} (ha:∀ w,(isAgg t).run P w=.ok true w) (hz:∀ w,(sizeOf t).run P w=.ok n w) (hv:Value.agg ((cs.drop o).take n).toArray=v) (w:World):(part t cs.toArray o).run P w=.ok v w:=by
 simp [part,ha w,hz w,← hv]
theorem e6 {t:TypeId} {o:Nat} {cs:List Value} {v:Value} (ha:∀ w,(isAgg t).run P w=.ok false w) (hv:cs[o]?=some v) (w:World):(part t cs.toArray o).run P w=.ok v w:=by
 simp [part,ha w,hv]
theorem eqS {t:TypeId} {k:Nat} {fs:Array Field} {α:Type} [DecidableEq α] {c:α→List Value} {val:α→Value} (hv:∀ x,val x=.agg (c x).toArray) (hu:P.underlying t=some (.struct fs)) (hs:P.stoodInHeld t=false)
 (h:∀ d x y w,k≤d→(Op.eqFields d (c x).toArray (c y).toArray fs.toList).run P w=.ok (decide (x=y)) w):EqIn P (k+1) t val:=by
 intro d x y w hd
 obtain ⟨d',rfl⟩:∃ d',d=d'+1:=⟨d - 1,by omega⟩
 have hf:P.fieldsOf t=fs:=by simp [Program.fieldsOf,hu]
 rw [hv,hv,run_equalIn_struct w d' t _ _ (by rw [hf]; exact hu) hs,hf]
 exact h d' x y w (by omega)
end
end Go.Sx
namespace Go.Sx
open Go Go.RowKit
def dh (w:World) (v:Value) (p:Prop):Ending→World→Prop:=fun e w'=>e=.returned v∧p∧Below w.heap.size w w'
section
variable {P:Program} {w0:World} {N:Nat} {F:List (Nat×Value)} {L:List Asn} {a:Act} {w:World} {ops:Array Oper} {Q:Exit→Act→World→Prop} {rest:List Oper}
 {d:Nat} {op:Op} {ty:TypeId} {pos:String} {aft:Array Edge}
theorem Calls.pr {f:FuncId} {args:Array Value} {v:Value} {p:Prop} (h:Calls P f args w (dh w v p)):p:=by
 obtain ⟨_,_,_,⟨_,hp,_⟩,_⟩:=h []
 exact hp
theorem Calls.v {f:FuncId} {args:Array Value} {v:Value} {p:Prop} (h:Calls P f args w (dh w v p)):Calls P f args w (RetV w v):=h.mono fun _ _ h=>⟨h.1,h.2.2⟩
theorem St.retP (h:St w0 N F L a w) {v u:Value} {p:Prop} (e:v=u) (hp:p):dh w0 u p (.returned v) w:=⟨by rw [e],hp,h.bel⟩
theorem clp {f:FuncId} {args:Array Operand} {ats:Array TypeId} {vs:List Value} {v:Value} {p:Prop} (h:St w0 N F L a w) (hc:∀ args w,(callFunc f args).run P w=.ok (.enter f args) w) (ha:evs F args.toList=some vs)
 (ct:∀ w,Calls P f vs.toArray w (dh w v p)) (hd:Nat.blt d N=true) (k:∀ a w,St w0 N ((d,v)::F) L a w→wpList P ops Q rest a w) :
 wpList P ops Q (⟨some d,.call ⟨.value (.func f),args,ats⟩,ty,pos,aft,none⟩::rest) a w:=clv h hc ha (fun w=>Calls.v (ct w)) hd k
theorem iC {f:FuncId} {args:Array Operand} {ats:Array TypeId} {vs:List Value} {v:Value} {p:Prop} (hc:∀ args w,(callFunc f args).run P w=.ok (.enter f args) w) (ha:evs F args.toList=some vs)
 (ct:∀ w,Calls P f vs.toArray w (dh w v p)):Step P w0 F L (.call ⟨.value (.func f),args,ats⟩) (·=v) (fun _=>L):=s_clv hc ha fun w=>Calls.v (ct w)
theorem mo {x:Operand} {xs:List Operand} {v:Value} {vs:List Value} (h:ev F x=some v) (hs:evs F xs=some vs):evs F (x::xs)=some (v::vs):=by simp [evs,h,hs]
theorem yn {x y:Operand} {t tt:TypeId} {m n:Nat} (hx:ev F x=some (.string (bs m))) (hy:ev F y=some (.string (bs n))):Rd P w0 F [] (.binOp .eql t x y tt) (.bool (decide (m=n))):=by
 have:=r_eqlS (P:=P) (w0:=w0) (t:=t) (tt:=tt) hx hy
 rwa [bs_eq] at this
theorem yi {x y:Operand} {t tt:TypeId} {m n:Nat} (hx:ev F x=some (.string (bs m))) (hy:ev F y=some (.string (bs n))):Rd P w0 F [] (.binOp .neq t x y tt) (.bool (!decide (m=n))):=by
 have:=r_neqS (P:=P) (w0:=w0) (t:=t) (tt:=tt) hx hy
 rwa [bs_eq] at this
theorem r_nilP {x:Operand} {b k:Nat} (hx:ev F x=some (ptr b k)):Rd P w0 F [] (.nilCheck x) (ptr b k):=dP fun o a w ho ha=>by simp [execOp,ho,ha x _ hx,ptr]
theorem r_nilM {x:Operand} {m:String} {t:TypeId} {u:Value} (hx:ev F x=some (.func (.method m) #[.iface t u] #[])) (hn:∀ w,(nilAhead (P.types.size+Made.depth) t u m).run P w=.ok (some false) w) :
 Rd P w0 F [] (.nilCheck x) (.func (.method m) #[.iface t u] #[]):=dP fun o a w ho ha=>by simp [execOp,ho,ha x _ hx,hn w]
theorem jh {φ:Value→Prop} {A:Value→List Asn} (h:Step P w0 F [] op φ A):Step P w0 F [.emp] op φ A:=by
 intro o a w U K Q ho ha hb hs k
 obtain ⟨f,V,hU,_,_,hf,hV⟩:=hs
 exact h o a w U K Q ho ha hb (fun k hk=>((hU k).1 hk).elim (hf k) (hV k)) k
def SubF:List (Nat×Value)→List (Nat×Value)→Prop
 | [],_=>True
 | (t,v)::F',F=>look F t=some v∧SubF F' F
theorem SubF.look:∀ {F' F:List (Nat×Value)},SubF F' F→∀ t v,look F' t=some v→look F t=some v
 | [],_,_,t,v,h=>by simp [Sx.look] at h
 | (u,x)::F',F,⟨h1,h2⟩,t,v,h=>by
  simp only [Sx.look] at h
  cases hb:Nat.beq u t with
  | true =>
   have:=Nat.eq_of_beq_eq_true hb
   subst this
   rw [hb] at h
   simp at h
   subst h
   exact h1
  | false =>
   rw [hb] at h
   exact SubF.look h2 t v h
theorem St.sub {F':List (Nat×Value)} (h:St w0 N F L a w) (hF:SubF F' F):St w0 N F' L a w:=h.weak hF.look
theorem sep_emp {lo:Nat} {U:Fp} (h:Sep lo w L U):Sep lo w (L++[.emp]) U :=
 (h.append (B:=[.emp]) (V:=fun _=>False) ⟨fun _=>False,fun _=>False,fun _=>by simp,fun _ h=>h.elim,fun _ h=>h.elim,fun _=>id,fun _=>id⟩ (fun _ _=>id)).congr fun k=>by simp
theorem St.emps (h:St w0 N F L a w):∀ n:Nat,St w0 N F (L++List.replicate n .emp) a w
 | 0=>by simpa using h
 | n+1=>by
  have:=St.emps h n
  obtain ⟨U,hU⟩:=this.sep
  have h2:=sep_emp hU
  rw [List.append_assoc,← List.replicate_succ'] at h2
  exact ⟨h.size,h.defers,h.regs,h.bel,U,h2⟩
theorem St.pick (h:St w0 N F L a w) (ix:List Nat) (hn:ix.Nodup):St w0 N F (ix.filterMap fun i=>L[i]?) a w:=by
 obtain ⟨U,hU⟩:=h.sep
 refine ⟨h.size,h.defers,h.regs,h.bel,?_⟩
 have:∀ (ix:List Nat) (L:List Asn),ix.Nodup→(∀ {U},Sep w0.heap.size w L U→∃ V,Sep w0.heap.size w (ix.filterMap fun i=>L[i]?) V∧∀ k,V k→U k):=by
  intro ix
  induction ix with
  | nil=>exact fun L _ _ hU=>⟨fun _=>False,fun _=>id,fun _ h=>h.elim⟩
  | cons i ix ih =>
   intro L hn U hU
   obtain ⟨hi,hn'⟩:=List.nodup_cons.1 hn
   cases hLi:L[i]? with
   | none =>
    simp only [List.filterMap_cons,hLi]
    exact ih L hn' hU
   | some r =>
    simp only [List.filterMap_cons,hLi]
    obtain ⟨B,hp,hq⟩:=eZ Asn.emp hLi
    obtain ⟨f,V,hUV,hd,hf,hr,hB⟩:=Sep.perm hp hU
    have hE:Sep w0.heap.size w (Asn.emp::B) V:=⟨fun _=>False,V,fun k=>by simp,fun _ h=>h.elim,fun _ h=>h.elim,fun _=>id,hB⟩
    obtain ⟨W,hW,hWV⟩:=ih (L.set i .emp) hn' (Sep.perm hq hE)
    have hsame:(ix.filterMap fun j=>(L.set i .emp)[j]?)=ix.filterMap fun j=>L[j]?:=by
     refine Sx.List.filterMap_congr_mem fun j hj=>?_
     rw [List.getElem?_set_ne]
     intro e
     exact hi (e ▸ hj)
    rw [hsame] at hW
    refine ⟨fun k=>f k∨W k,⟨f,W,fun _=>Iff.rfl,fun k hk hw=>hd k hk (hWV k hw),hf,hr,hW⟩,?_⟩
    rintro k (h | h)
    · exact (hUV k).2 (.inl h)
    · exact (hUV k).2 (.inr (hWV k h))
 obtain ⟨V,hV,_⟩:=this ix L hn hU
 exact ⟨V,hV⟩
theorem az {I:Nat→Act→World→Prop} {n:Nat} (h:∃ n',n' < n∧I n' a w):Exit.then (fun a' w'=>∃ n',n' < n∧I n' a' w') Q .normal a w:=h
theorem row_view {α:Type} [Cod α] {e:TypeId} {sv:Value} {xs:List α} (hs:∃ U,Sep w0.heap.size w L U) (i:Nat) (hi:L[i]?=some (Asn.row e sv xs)):View w sv xs:=by
 obtain ⟨U,hU⟩:=hs
 obtain ⟨f,⟨hr,_⟩,_⟩:=hU.at hi
 exact ic hr
end
theorem andI {a b:Bool} (h:a=true) (h':b=true):(a && b)=true:=by simp [h,h']
theorem notI {a:Bool} (h:a=false):(!a)=true:=by simp [h]
def SzB (k m:Nat):Prop:=(le m).length*2 ^ k≤70368744177664
def SzI (k:Nat) (x:GI):Prop:=SzB k x.mag
def SzQ (k:Nat) (x:GQ):Prop:=SzI k x.num∧SzI k x.den
def SzR (k:Nat) (x:GR):Prop:=SzQ k x.p∧SzQ k x.r
def SzV (k:Nat) (x:Iv):Prop:=SzR k x.lo∧SzR k x.hi
def SzD (k:Nat) (x:Qd):Prop:=SzQ k x.c0∧SzQ k x.c1∧SzQ k x.c2
def SzN (k:Nat) (x:Ln):Prop:=SzQ k x.x0∧SzQ k x.x1∧SzQ k x.y0∧SzQ k x.y1
theorem SzB_le {j k m:Nat} (h:SzB k m) (hj:j≤k):SzB j m :=
 Nat.le_trans (Nat.mul_le_mul_left _ (Nat.pow_le_pow_right (by decide) hj)) h
theorem fV {j k:Nat} {x:GI} (h:SzI k x) (hj:j≤k):SzI j x:=SzB_le h hj
theorem di {j k:Nat} {x:GQ} (h:SzQ k x) (hj:j≤k):SzQ j x:=⟨fV h.1 hj,fV h.2 hj⟩
theorem dG {j k:Nat} {x:GR} (h:SzR k x) (hj:j≤k):SzR j x:=⟨di h.1 hj,di h.2 hj⟩
theorem iU {j k:Nat} {x:Iv} (h:SzV k x) (hj:j≤k):SzV j x:=⟨dG h.1 hj,dG h.2 hj⟩
theorem fD {j k:Nat} {x:Qd} (h:SzD k x) (hj:j≤k):SzD j x:=⟨di h.1 hj,di h.2.1 hj,di h.2.2 hj⟩
theorem ed {k:Nat} (m:Nat) (hm:m < 256) (hk:k≤46):SzB k m:=by
 have h1:(le m).length≤1:=by
  unfold le
  match m with
  | 0=>simp [leF]
  | m+1 =>
   unfold leF
   have:(m+1) / 256=0:=by omega
   rw [this,mj]
   cases Nat.beq (m+1) 0 <;> simp
 calc (le m).length*2 ^ k≤1*2 ^ 46:=Nat.mul_le_mul h1 (Nat.pow_le_pow_right (by decide) hk)
  _=70368744177664:=by decide
theorem wg (k:Nat):SzB k 0:=by simp [SzB,le,leF]
end Go.Sx
namespace Go.Sx
theorem ar {P:Program} {f:FuncId} {args:Array Value} {w w':World} {v:Value} {p:Prop} (h:Calls P f args w (dh w' v p)):p:=by
 obtain ⟨_,_,_,⟨_,hp,_⟩,_⟩:=h []
 exact hp
theorem cT {α:Type} {c:Bool} {x y:α} (h:c=true):(bif c then x else y)=x:=by rw [h]; rfl
theorem cF {α:Type} {c:Bool} {x y:α} (h:c=false):(bif c then x else y)=y:=by rw [h]; rfl
end Go.Sx
namespace Go.Sx
def bn (a b:Nat):Int:=bif Nat.blt a b then -1 else bif Nat.beq a b then 0 else 1
theorem tX {a b:Nat} (h:decide (bn a b≥0)=true):b≤a:=by
 have h:=of_decide_eq_true h
 unfold bn at h
 rw [gk] at h
 by_cases hlt:a < b
 · simp [hlt] at h
 · omega
theorem tW {a b:Nat} (h:decide (bn a b≥0)=false):a≤b:=by
 have h:=of_decide_eq_false h
 unfold bn at h
 rw [gk] at h
 by_cases hlt:a < b
 · omega
 · simp [hlt] at h
   cases hb:Nat.beq a b <;> simp [hb] at h
end Go.Sx
namespace Go.Sx
theorem fQ {a b:Int} (ha:-1≤a∧a≤1) (hb:-1≤b∧b≤1):-1≤a*b∧a*b≤1:=by
 obtain ⟨h1,h2⟩:=ha
 have:a=-1∨a=0∨a=1:=by omega
 rcases this with rfl | rfl | rfl <;> omega
theorem iG {a b:Int} (ha:-1≤a∧a≤1) (hb:-1≤b∧b≤1):IntKind.i64.wrap (a*b)=a*b:=by
 have:=fQ ha hb
 rw [IntKind.wrap_i64]; omega
end Go.Sx
namespace Go.Sx
open Go Go.RowKit
instance codNat:Cod Nat:=⟨fun n=>[.int .u32 (n:Int)],1,fun _=>rfl,fun x c h=>by simp at h; subst h; rfl,by decide⟩
instance codU8:Cod UInt8:=⟨fun n=>[.int .u8 (n.toNat:Int)],1,fun _=>rfl,fun x c h=>by simp at h; subst h; rfl,by decide⟩
instance codInt:Cod Int:=⟨fun n=>[.int .i64 n],1,fun _=>rfl,fun x c h=>by simp at h; subst h; rfl,by decide⟩
section
variable {P:Program} {w0:World} {N:Nat} {F:List (Nat×Value)} {L:List Asn} {a:Act} {w:World} {ops:Array Oper} {Q:Exit→Act→World→Prop} {rest:List Oper}
 {d:Nat} {op:Op} {ty:TypeId} {pos:String} {aft:Array Edge}
theorem clq {f:FuncId} {args:Array Operand} {ats:Array TypeId} {vs:List Value} {v:Value} {p:Prop} (h:St w0 N F L a w) (hc:∀ args w,(callFunc f args).run P w=.ok (.enter f args) w) (ha:evs F args.toList=some vs)
 (ct:∀ w,Below w0.heap.size w0 w→(∃ U,Sep w0.heap.size w L U)→Calls P f vs.toArray w (dh w v p)) (hd:Nat.blt d N=true) (k:∀ a w,St w0 N ((d,v)::F) L a w→wpList P ops Q rest a w) :
 wpList P ops Q (⟨some d,.call ⟨.value (.func f),args,ats⟩,ty,pos,aft,none⟩::rest) a w :=
 cl h hc ha (fun w hb hs=>(Calls.v (ct w hb hs)).mono fun _ _ h=>h.ret) hd fun u a w hu h=>by subst hu; exact k a w h
def RetR {α:Type} [Cod α] (w:World) (e:TypeId) (xs:List α) (p:Prop):Ending→World→Prop:=Ret w (fun v=>SL v xs.length∧p) (fun v=>[.row e v xs])
theorem RetR.pr {f:FuncId} {args:Array Value} {α:Type} [Cod α] {e:TypeId} {xs:List α} {p:Prop} {w':World} (h:Calls P f args w (RetR w' e xs p)):p:=by
 obtain ⟨_,_,_,⟨_,_,_,⟨_,hp⟩,_⟩,_⟩:=h []
 exact hp
theorem St.row_sl {α:Type} [Cod α] {e:TypeId} {sv:Value} {xs:List α} (h:St w0 N F L a w) (i:Nat) (hi:L[i]?=some (Asn.row e sv xs)):SL sv xs.length:=(h.row_view i hi).sl
theorem St.row_nn {α:Type} [Cod α] {e:TypeId} {sv:Value} {xs:List α} (h:St w0 N F L a w) (i:Nat) (hi:L[i]?=some (Asn.row e sv xs)) (hn:0 < xs.length):NN sv xs.length:=(h.row_view i hi).nn hn
theorem St.row_len {α:Type} [Cod α] {e:TypeId} {sv:Value} {xs:List α} (h:St w0 N F L a w) (i:Nat) (hi:L[i]?=some (Asn.row e sv xs)):xs.length≤maxLen:=(h.row_view i hi).1.1
theorem St.retR {α:Type} [Cod α] {e:TypeId} {sv:Value} {xs:List α} {p:Prop} (h:St w0 N F L a w) (i:Nat) (hi:L[i]?=some (Asn.row e sv xs)) (hp:p):RetR w0 e xs p (.returned sv) w:=by
 refine h.retA ⟨h.row_sl i hi,hp⟩ ?_
 have:=h.pick [i] (by simp)
 simpa [hi] using this
theorem clr {α:Type} [Cod α] {f:FuncId} {args:Array Operand} {ats:Array TypeId} {vs:List Value} {e:TypeId} {xs:List α} {p:Prop} (h:St w0 N F L a w) (hc:∀ args w,(callFunc f args).run P w=.ok (.enter f args) w) (ha:evs F args.toList=some vs)
 (ct:∀ w,Below w0.heap.size w0 w→(∃ U,Sep w0.heap.size w L U)→Calls P f vs.toArray w (RetR w e xs p)) (hd:Nat.blt d N=true) (k:∀ sv a w,p→St w0 N ((d,sv)::F) (.row e sv xs::L) a w→wpList P ops Q rest a w) :
 wpList P ops Q (⟨some d,.call ⟨.value (.func f),args,ats⟩,ty,pos,aft,none⟩::rest) a w :=
 cl h hc ha ct hd fun v a w hv h=>k v a w hv.2 h
theorem rQ {α:Type} [Cod α] {z:Value} {z0:α} (hz:z.cells.toList=Cod.enc z0) (hn:Cod.n α=1) (n:Nat):(madeCells z.cells (n*1)).toList=flat (List.replicate n z0):=by
 have hl:(Cod.enc z0).length=1:=by rw [Cod.len,hn]
 match hc:Cod.enc z0,hl with
 | [c],_ =>
  have hz':z.cells=#[c]:=by
   have:z.cells.toList=[c]:=by rw [hz,hc]
   rw [← Array.toArray_toList (xs:=z.cells),this]
  have hf:flat (List.replicate n z0)=List.replicate n c:=by
   induction n with
   | zero=>rfl
   | succ n ih=>simp only [flat,List.replicate_succ,List.flatMap_cons,hc] at *; rw [ih]; rfl
  rw [hf,hz']
  apply List.ext_getElem
  · simp [madeCells]
  · intro i h1 h2
    have h0:∀ k,k % 1=0:=fun k=>by omega
    simp [madeCells,h0]
theorem mu {α:Type} [Cod α] {t e:TypeId} {bytes n:Nat} {zero:List Value} {x y:Operand} {kl kc:IntKind} (z0:α) (hone:Cod.n α=1) (hT:SlT P t e (Cod.n α) bytes zero) (hz0:zero=Cod.enc z0) (hx:ev F x=some (.int kl (n:Int))) (hy:ev F y=some (.int kc (n:Int))) (hn:bytes*n≤140737488355328) (hn':n≤4611686018427387904) :
 Step P w0 F [] (.makeSlice t x y) (fun v=>NN v n) (fun v=>[.row e v (List.replicate n z0)]):=by
 intro o a w U K Q ho ha hb hs k
 obtain ⟨ht,i,z,hi,hz,hzc,hsz,hby,hzl,hn4,hb4⟩:=hT
 have hr:=run_make (P:=P) w t e i z ht hi hz kl kc (n:Int) (n:Int) (by omega) (by omega) (by
  rw [hby]
  have h2:((bytes*n:Nat):Int)≤281474976710656:=by omega
  rwa [Int.natCast_mul] at h2) (by omega)
 simp only [Int.toNat_natCast] at hr
 have hrun:(execOp a.eval o).run P w=.ok (.value (.slice (some ⟨w.heap.size,0,none⟩) n n)) (w.alloc (.cells (madeCells z.cells (n*i.size)) e)):=by
  rw [execOp]
  simp only [ho]
  rw [ha x _ hx,ha y _ hy,Sem.run_bind,hr]
  rfl
 unfold Oper.wp
 rw [hrun]
 have hcells:(madeCells z.cells (n*i.size)).toList=flat (List.replicate n z0):=by
  rw [hsz,hone]; exact rQ (by rw [hzc,hz0]) hone n
 have hfl:(flat (List.replicate n z0)).length=n*Cod.n α:=by rw [bV,List.length_replicate]
 refine k _ _ (fun k=>k=w.heap.size) ⟨_,_,_,rfl⟩ ((jl w _).weak fun _ h=>h.elim) ⟨fun k=>k=w.heap.size,fun _=>False,fun k=>by simp,fun _ _=>id,fun k hk=>by simp only [hk,World.size_alloc]; have:=hb.size; omega,?_,fun _=>id⟩
 refine ⟨⟨by rw [bV],.inr ⟨w.heap.size,n,madeCells z.cells (n*i.size),by simp,Nat.zero_le _,?_,by simp,by simp [maxLen]; omega,?_,?_⟩⟩,fun k=>?_⟩
 · show (w.heap.push _)[w.heap.size]?=_; simp
 · rw [← Array.length_toList,hcells,hfl]
 · rw [hcells,List.length_replicate]; exact List.take_of_length_le (by rw [hfl]; exact Nat.le_refl _)
 · simp [Value.ownBlock,eq_comm]
theorem s_cut {α:Type} [Cod α] {t e e':TypeId} {x y:Operand} {sv:Value} {xs:List α} {k:IntKind} {n:Nat} (hu:∀ w,(underlying t).run P w=.ok (.slice e') w) (hz:∀ w,(sizeOf e').run P w=.ok (Cod.n α) w) (hx:ev F x=some sv) (hy:ev F y=some (.int k (n:Int))) (hn:n≤xs.length) :
 Step P w0 F [.row e sv xs] (.slice t x none (some y) none) (fun v=>SL v n) (fun v=>[.row e v (xs.take n)]):=by
 intro o a w U K Q ho ha hb hs kk
 obtain ⟨f,V,hU,hd,hlt,⟨⟨hlen,hown⟩,hf1⟩,hV⟩:=hs
 unfold Oper.wp
 rcases hown with ⟨rfl,h0⟩ | ⟨g,cap,cur,rfl,hbg,hh,hcap,hcm,hcs,htk⟩
 · have hn0:n=0:=by omega
   subst hn0
   have hxs:xs=[]:=List.eq_nil_of_length_eq_zero h0
   subst hxs
   have hrun:(execOp a.eval o).run P w=.ok (.value (.slice none 0 0)) w:=by
    simp [execOp,ho,Instr.sliceAt,Instr.slice,Instr.sliceBounds,Instr.sliceBound,asIntOf,ha x _ hx,ha y _ hy,hu w,hz w]
   rw [hrun]
   exact kk _ w U ⟨_,_,rfl⟩ (Moves.same w U) ⟨f,V,hU,hd,hlt,⟨⟨by simp [flat],.inl ⟨rfl,rfl⟩⟩,hf1⟩,hV⟩
 · have hrun:(execOp a.eval o).run P w=.ok (.value (.slice (some ⟨g,0,none⟩) n cap)) w:=by
    have h1:(n:Int)≤(cap:Int):=by omega
    by_cases hc0:cap=0
    · simp [execOp,ho,Instr.sliceAt,Instr.slice,Instr.sliceBounds,Instr.sliceBound,asIntOf,ha x _ hx,ha y _ hy,hu w,hz w,h1,hc0]; omega
    · simp [execOp,ho,Instr.sliceAt,Instr.slice,Instr.sliceBounds,Instr.sliceBound,asIntOf,ha x _ hx,ha y _ hy,hu w,hz w,h1,hc0,Addr.add]
      omega
   rw [hrun]
   have hlt':(xs.take n).length=n:=by rw [List.length_take]; omega
   refine kk _ w U ⟨_,_,rfl⟩ (Moves.same w U) ⟨f,V,hU,hd,hlt,⟨⟨by rw [bV],.inr ⟨g,cap,cur,by rw [hlt'],hbg,hh,by rw [hlt']; omega,hcm,hcs,?_⟩⟩,hf1⟩,hV⟩
   have:flat xs=flat (xs.take n)++flat (xs.drop n):=by rw [← jn,List.take_append_drop]
   have h2:cur.toList.take (n*Cod.n α)=(flat xs).take (n*Cod.n α):=by
    rw [← htk,List.take_take,Nat.min_eq_left (Nat.mul_le_mul_right _ hn)]
   rw [hlt',h2,this,List.take_left' (by rw [bV,hlt'])]
theorem r_sliceA {t e':TypeId} {x y:Operand} {b m n:Nat} {k:IntKind} (hu:∀ w,(underlying t).run P w=.ok (.array m e') w) (hz:∀ w,(sizeOf e').run P w=.ok 1 w) (hx:ev F x=some (ptr b 0)) (hy:ev F y=some (.int k (n:Int))) (hn:n≤m) :
 Rd P w0 F [] (.slice t x none (some y) none) (.slice (some ⟨b,0,none⟩) n m) :=
 dP fun o a w ho ha=>by
  have h1:(n:Int)≤(m:Int):=by omega
  have h2:¬ (m < n):=by omega
  by_cases hm:m=0
  · subst hm
    have:n=0:=by omega
    subst this
    simp [execOp,ho,Instr.sliceAt,Instr.sliceBounds,Instr.sliceBound,asIntOf,ha x _ hx,ha y _ hy,hu w,hz w,Instr.sureAddr,ptr]
  · simp [execOp,ho,Instr.sliceAt,Instr.sliceBounds,Instr.sliceBound,asIntOf,ha x _ hx,ha y _ hy,hu w,hz w,Instr.sureAddr,ptr,h1,hm,Addr.add,h2,hn]
theorem uF:∀ l:List UInt8,flat l=(l.map fun c=>((c.toNat:Nat):Int)).map (Value.int .u8)
 | []=>rfl
 | b::l=>by
  have:=uF l
  simp only [flat,List.flatMap_cons,List.map_cons] at *
  rw [this]; rfl
theorem oi:∀ (bs:List UInt8) (r:ByteArray),(bs.map fun b=>((b.toNat:Nat):Int)).foldl (fun (r:ByteArray) (n:Int)=>r.push (UInt8.ofNat n.toNat)) r=⟨(r.data.toList++bs).toArray⟩
 | [],r=>by simp
 | b::bs,r=>by
  simp only [List.map_cons,List.foldl_cons]
  rw [oi bs]
  simp [ByteArray.push]
theorem r_strA {src dst e':TypeId} {x:Operand} {b n m:Nat} {l:List UInt8} {cs:List Value} {e:TypeId} (hs:P.underlying src=some (.slice e')) (he:P.underlying e'=some (.int .u8)) (hd:P.underlying dst=some .string)
 (hx:ev F x=some (.slice (some ⟨b,0,none⟩) n m)) (hc:cs.take n=flat l) (hl:l.length=n):Rd P w0 F [Asn.blk b cs e] (.convert src dst x) (.string ⟨l.toArray⟩):=by
 intro o a w U ho ha hb hsep
 obtain ⟨f,V,_,_,_,⟨_,hh⟩,_⟩:=hsep
 have hfl:=uF l
 have hld:(loadCells (⟨b,0,none⟩:Addr) n).run P w=.ok ((l.map fun c=>((c.toNat:Nat):Int)).map (Value.int .u8)).toArray w:=by
  have h0:=run_loadCells_list (P:=P) w ⟨b,0,none⟩ (flat l) (fun j v hj=>by
   rw [Addr.add_lit,qm hh,Nat.zero_add]
   rw [← hc,List.getElem?_take] at hj
   split at hj
   · exact hj
   · cases hj)
  have hone:Cod.n UInt8=1:=rfl
  rw [bV,hl,hone,Nat.mul_one,hfl] at h0
  exact h0
 have:=run_bytesToString (P:=P) w ⟨b,0,none⟩ n m _ hld
 rw [oi] at this
 simp only [execOp,ho,ha x _ hx,Sem.run_bind,run_convert_bytes_string w src dst e' _ _ _ hs he hd,this,Result.andThen_ok,Sem.run_pure]
 rfl
theorem r_str {src dst e' e:TypeId} {x:Operand} {sv:Value} {l:List UInt8} (hs:P.underlying src=some (.slice e')) (he:P.underlying e'=some (.int .u8)) (hd:P.underlying dst=some .string) (hx:ev F x=some sv) :
 Rd P w0 F [Asn.row e sv l] (.convert src dst x) (.string ⟨l.toArray⟩):=by
 intro o a w U ho ha hb hsep
 obtain ⟨f,V,_,_,_,⟨hr,_⟩,_⟩:=hsep
 have hv:=ic hr
 by_cases hne:l=[]
 · subst hne
   obtain ⟨b,c,rfl⟩:=hv.sl
   cases b with
   | none =>
    simp only [execOp,ho,ha x _ hx,Sem.run_bind,run_convert_bytes_string w src dst e' _ _ _ hs he hd]
    rfl
   | some q =>
    have:=run_bytesToString (P:=P) w q 0 c [] (by simp [loadCells,loadCellsFrom])
    simp only [List.length_nil,execOp,ho,ha x _ hx,Sem.run_bind,run_convert_bytes_string w src dst e' _ _ _ hs he hd,this,Result.andThen_ok,Sem.run_pure]
    rfl
 · obtain ⟨g,off,c,rfl,hc⟩:=pu hv hne
   have hfl:=uF l
   have hld:=run_loadCells_list (P:=P) w ⟨g,off,none⟩ (flat l) hc
   rw [bV,hfl] at hld
   have hone:Cod.n UInt8=1:=rfl
   rw [hone,Nat.mul_one] at hld
   have:=run_bytesToString (P:=P) w ⟨g,off,none⟩ l.length c _ hld
   rw [oi] at this
   simp only [execOp,ho,ha x _ hx,Sem.run_bind,run_convert_bytes_string w src dst e' _ _ _ hs he hd,this,Result.andThen_ok,Sem.run_pure]
   rfl
theorem s_copy {α:Type} [Cod α] {t tt e e1 e2:TypeId} {x y:Operand} {sv tv:Value} {xs ys:List α} (hu:P.underlying t=some (.slice e)) (hi:(P.info? e).map (·.size)=some 1) (hone:Cod.n α=1) (hx:ev F x=some sv) (hy:ev F y=some tv) (hl:ys.length≤xs.length) :
 Step P w0 F [Asn.row e1 sv xs,Asn.row e2 tv ys] (.call ⟨.builtin .copy,#[x,y],#[t,tt]⟩) (·=.int .i64 ys.length) (fun _=>[Asn.row e1 sv (ys++xs.drop ys.length),Asn.row e2 tv ys]):=by
 intro o a w U K Q ho ha hb hs k
 obtain ⟨f,V,hU,hd,hlt,⟨hown,hf1⟩,f2,V2,hU2,hd2,hlt2,⟨hown2,hf2⟩,hnil⟩:=hs
 have hv2:=ic hown2
 have hsame:ys=[]→ys++xs.drop ys.length=xs:=fun h=>by subst h; simp
 by_cases hne:ys=[]
 · have hrun:(execOp a.eval o).run P w=.ok (.value (.int .i64 ys.length)) w:=by
    subst hne
    obtain ⟨b,c,h1⟩:=hv2.sl
    obtain ⟨b',c',h2⟩:=(ic hown).sl
    have:=run_copy_none (P:=P) w t tt o.type e b' b xs.length c' 0 c hu hi (by simp)
    simp only [List.length_nil] at h1
    simp only [execOp,ho,resolve,invoke,builtin,List.map_toArray,List.map_cons,List.map_nil,Sem.run_bind,Sem.run_pure,Result.andThen_ok,ha x _ hx,ha y _ hy,h1,h2,this]
    rfl
   unfold Oper.wp
   rw [hrun]
   refine k _ w U rfl (Moves.same w U) ⟨f,V,hU,hd,hlt,⟨by rw [hsame hne]; exact hown,hf1⟩,f2,V2,hU2,hd2,hlt2,⟨hown2,hf2⟩,hnil⟩
 · obtain ⟨g2,off2,c2,rfl,hc⟩:=pu hv2 hne
   have hyl:0 < ys.length:=List.length_pos_iff.2 hne
   obtain ⟨hlen,hown1⟩:=hown
   rcases hown1 with ⟨_,h0⟩ | ⟨g,cap,cur,rfl,hbg,hh,hcap,hcm,hcs,htk⟩
   · omega
   · have hfy:(flat ys).length=ys.length:=by rw [bV,hone,Nat.mul_one]
     have hrun0:=run_copy_row (P:=P) w t tt o.type e g 0 xs.length cap ⟨g2,off2,none⟩ ys.length c2 cur e1 (flat ys) hu hi hh (by rw [hfy]; exact (Nat.min_eq_left hl).symm) hc (by rw [hfy,hcs,hone]; omega) (rU ys)
     have hrun:(execOp a.eval o).run P w=.ok (.value (.int .i64 ys.length)) (w.setRow g (cur.toList.take 0++flat ys++cur.toList.drop (0+(flat ys).length)).toArray):=by
      simp only [execOp,ho,resolve,invoke,builtin,List.map_toArray,List.map_cons,List.map_nil,Sem.run_bind,Sem.run_pure,Result.andThen_ok,ha x _ hx,ha y _ hy,hrun0,hfy]
      rfl
     unfold Oper.wp
     rw [hrun]
     have hlen':(ys++xs.drop ys.length).length=xs.length:=by simp; omega
     have hxl:(flat xs).length=xs.length:=by rw [bV,hone,Nat.mul_one]
     refine k _ _ U rfl (lW ((hU g).2 (.inl ((hf1 g).2 rfl)))) ⟨f,V,hU,hd,fun k hk=>by simpa using hlt k hk,⟨⟨by rw [bV],.inr ⟨g,cap,_,by rw [hlen'],hbg,setRow_heap w g _ _ e1 _ hh,by rw [hlen']; exact hcap,hcm,?_,?_⟩⟩,hf1⟩,?_⟩
     · simp only [List.take_zero,List.nil_append,Nat.zero_add,List.size_toArray,List.length_append,List.length_drop,Array.length_toList,hfy,hcs,hone]; omega
     · simp only [List.take_zero,List.nil_append,Nat.zero_add]
       rw [hlen',hone,Nat.mul_one,hfy,jn]
       have h1:cur.toList.take xs.length=flat xs:=by rw [← htk,hone,Nat.mul_one]
       have h2:flat (xs.drop ys.length)=(cur.toList.take xs.length).drop ys.length:=by
        rw [h1]
        have:flat xs=flat (xs.take ys.length)++flat (xs.drop ys.length):=by rw [← jn,List.take_append_drop]
        rw [this,List.drop_left' (by rw [bV,hone,Nat.mul_one,List.length_take]; omega)]
       rw [h2,List.take_append,List.take_of_length_le (by rw [hfy]; exact hl),hfy,List.drop_take]
     · refine ⟨f2,V2,hU2,hd2,fun k hk=>by simpa using hlt2 k hk,⟨?_,hf2⟩,hnil⟩
       obtain ⟨h1,h2⟩:=hown2
       refine ⟨h1,?_⟩
       rcases h2 with h2 | ⟨g',cap',cur',hv',hbg',hh',r⟩
       · exact .inl h2
       · refine .inr ⟨g',cap',cur',hv',hbg',?_,r⟩
         rw [setRow_other]
         · exact hh'
         · intro e
           subst e
           exact hd g' ((hf1 g').2 rfl) ((hU2 g').2 (.inl ((hf2 g').2 (by rw [hv']; rfl))))
end
end Go.Sx
namespace Go.Sx
open Go Go.RowKit
theorem p7:le 0=[]:=rfl
theorem vF:∀ (f g n:Nat),n≤f→n≤g→leF f n=leF g n
 | 0,g,n,h,_=>by have:n=0:=by omega
                 subst this; rw [mj,mj]
 | f+1,0,n,_,h=>by have:n=0:=by omega
                   subst this; rw [mj,mj]
 | f+1,g+1,n,h1,h2=>by
  unfold leF
  cases hb:Nat.beq n 0 with
  | true=>rfl
  | false =>
   have hn:n≠0:=fun e=>by subst e; simp at hb
   simp only [cond_false]
   rw [vF f g (n / 256) (by omega) (by omega)]
theorem lr {n:Nat} (h:0 < n):le n=UInt8.ofNat (n % 256)::le (n / 256):=by
 obtain ⟨m,rfl⟩:∃ m,n=m+1:=⟨n - 1,by omega⟩
 have:Nat.beq (m+1) 0=false:=rfl
 show leF (m+1) (m+1)=_
 unfold leF
 rw [this]
 simp only [cond_false]
 rw [vF m ((m+1) / 256) ((m+1) / 256) (by omega) (by omega)]
 rfl
theorem cS:∀ (k n:Nat),(le n).length≤k↔n < 256 ^ k
 | 0,n=>by
  rcases Nat.eq_zero_or_pos n with rfl | h
  · simp [p7]
  · rw [lr h]; simp; omega
 | k+1,n=>by
  rcases Nat.eq_zero_or_pos n with rfl | h
  · simp [p7]
    exact Nat.pow_pos (by decide)
  · rw [lr h,List.length_cons,Nat.add_le_add_iff_right,cS k,Nat.pow_succ]
    omega
theorem nB {n:Nat} (h:0 < n):256 ^ ((le n).length - 1)≤n:=by
 rcases Nat.lt_or_ge n (256 ^ ((le n).length - 1)) with hlt | hge
 · have:=(cS ((le n).length - 1) n).2 hlt
   have:0 < (le n).length:=by rw [lr h]; simp
   omega
 · exact hge
theorem qz (n:Nat):n < 256 ^ (le n).length:=(cS _ n).1 (Nat.le_refl _)
theorem qT:∀ (n j:Nat),j < (le n).length→(le n)[j]?=some (UInt8.ofNat (n / 256 ^ j % 256))
 | n,j,h=>by
  rcases Nat.eq_zero_or_pos n with rfl | hp
  · simp [p7] at h
  · rw [lr hp] at h ⊢
    match j with
    | 0=>simp
    | j+1 =>
     simp only [List.length_cons] at h
     rw [List.getElem?_cons_succ,qT (n / 256) j (by omega),Nat.div_div_eq_div_mul,Nat.pow_succ,Nat.mul_comm 256]
 termination_by n=>n
 decreasing_by omega
theorem fm (n:Nat):(bs n).size=(le n).length:=by simp [bs,ByteArray.size]
theorem uU (n:Nat):(bs n).data.toList=(le n).reverse:=by simp [bs]
theorem aag {n i:Nat} (h:i < (bs n).size):(bs n)[i].toNat=n / 256 ^ ((le n).length - 1 - i) % 256:=by
 have h':i < (le n).length:=by rwa [fm] at h
 have h1:(bs n)[i]=(le n).reverse[i]'(by simpa using h'):=by
  show ((le n).reverse.toArray)[i]'(by simpa using h')=_
  rw [List.getElem_toArray]
 rw [h1,List.getElem_reverse]
 have:=qT n ((le n).length - 1 - i) (by omega)
 rw [List.getElem?_eq_getElem (by omega)] at this
 simp only [Option.some.injEq] at this
 rw [this,UInt8.toNat_ofNat']
 omega
theorem yu (k:Nat):256 ^ k=2 ^ (8*k):=by rw [Nat.pow_mul]
theorem be_step (m L i:Nat) (h:i < L):m / 256 ^ (L - i)*256+m / 256 ^ (L - 1 - i) % 256=m / 256 ^ (L - (i+1)):=by
 have e:L - i=(L - 1 - i)+1:=by omega
 have e2:L - (i+1)=L - 1 - i:=by omega
 rw [e,e2,Nat.pow_succ,← Nat.div_div_eq_div_mul]
 omega
theorem pv_lt (m L i:Nat) (hL:m < 256 ^ L) (h:i≤L):m / 256 ^ (L - i) < 256 ^ i:=by
 rw [Nat.div_lt_iff_lt_mul (Nat.pow_pos (by decide)),← Nat.pow_add,show i+(L - i)=L by omega]
 exact hL
theorem j6 {k:Nat} (a b:Nat) (ha:a*2 ^ k < 18446744073709551616) (hb:b < 2 ^ k) (hb':b < 18446744073709551616):bits .or .u64 ((a*2 ^ k:Nat):Int) (b:Int)=((a*2 ^ k+b:Nat):Int):=by
 have h1:(BitVec.ofInt 64 ((a*2 ^ k:Nat):Int)).toNat=a*2 ^ k:=by rw [BitVec.ofInt_natCast,BitVec.toNat_ofNat]; exact Nat.mod_eq_of_lt (by omega)
 have h2:(BitVec.ofInt 64 (b:Int)).toNat=b:=by rw [BitVec.ofInt_natCast,BitVec.toNat_ofNat]; exact Nat.mod_eq_of_lt (by omega)
 have h3:(a*2 ^ k) ||| b=a*2 ^ k+b:=by
  rw [← Nat.shiftLeft_eq,← Nat.shiftLeft_add_eq_or_of_lt hb]
 have h4:a*2 ^ k+b < 18446744073709551616:=by
  rw [← h3]
  exact Nat.or_lt_two_pow (n:=64) ha (by omega)
 show IntKind.u64.wrap ((BitVec.ofInt 64 ((a*2 ^ k:Nat):Int) ||| BitVec.ofInt 64 (b:Int)).toNat:Int)=_
 rw [BitVec.toNat_or,h1,h2,h3,IntKind.wrap_u64]
 omega
theorem nL {k:Nat} (a b:Nat) (ha:b < 2 ^ k) (hb:a*2 ^ k < 4294967296) (hb':b < 4294967296):bits .or .u32 (b:Int) ((a*2 ^ k:Nat):Int)=((b+a*2 ^ k:Nat):Int):=by
 have h1:(BitVec.ofInt 32 ((a*2 ^ k:Nat):Int)).toNat=a*2 ^ k:=by rw [BitVec.ofInt_natCast,BitVec.toNat_ofNat]; exact Nat.mod_eq_of_lt (by omega)
 have h2:(BitVec.ofInt 32 (b:Int)).toNat=b:=by rw [BitVec.ofInt_natCast,BitVec.toNat_ofNat]; exact Nat.mod_eq_of_lt (by omega)
 have h3:b ||| (a*2 ^ k)=b+a*2 ^ k:=by
  rw [Nat.or_comm,← Nat.shiftLeft_eq,← Nat.shiftLeft_add_eq_or_of_lt ha,Nat.add_comm]
 have h4:b+a*2 ^ k < 4294967296:=by
  rw [← h3]
  exact Nat.or_lt_two_pow (n:=32) (by omega) hb
 show IntKind.u32.wrap ((BitVec.ofInt 32 (b:Int) ||| BitVec.ofInt 32 ((a*2 ^ k:Nat):Int)).toNat:Int)=_
 rw [BitVec.toNat_or,h1,h2,h3,IntKind.wrap_u32]
 omega
theorem qF {a k:Nat} {n:Int} (hn:n.toNat=k) (h:a*2 ^ k < 18446744073709551616):IntKind.u64.wrap ((a:Int)*2 ^ n.toNat)=((a*2 ^ k:Nat):Int):=by
 have e:(a:Int)*2 ^ n.toNat=((a*2 ^ k:Nat):Int):=by rw [hn]; simp
 rw [e,IntKind.wrap_u64]; omega
theorem wshl32 {a k:Nat} {n:Int} (hn:n.toNat=k) (h:a*2 ^ k < 4294967296):IntKind.u32.wrap ((a:Int)*2 ^ n.toNat)=((a*2 ^ k:Nat):Int):=by
 have e:(a:Int)*2 ^ n.toNat=((a*2 ^ k:Nat):Int):=by rw [hn]; simp
 rw [e,IntKind.wrap_u32]; omega
theorem shr_nat {a k:Nat} {n:Int} (hn:n.toNat=k):(a:Int) / 2 ^ n.toNat=((a / 2 ^ k:Nat):Int):=by rw [hn]; simp
def eL (m:Nat):Nat×Bool:=bif Nat.ble (le m).length 8 then (m,true) else (0,false)
theorem u2 {m:Nat} (h:(le m).length≤8):eL m=(m,true):=by
 have hb:Nat.ble (le m).length 8=true:=Nat.ble_eq_true_of_le h
 simp only [eL,hb,cond_true]
theorem xA {m:Nat} (h:¬ (le m).length≤8):eL m=(0,false):=by
 have:Nat.ble (le m).length 8=false:=by
  cases hb:Nat.ble (le m).length 8 with
  | false=>rfl
  | true=>exact absurd (Nat.le_of_ble_eq_true hb) h
 simp [eL,this]
theorem me:∀ n:Nat,n < 18446744073709551616→(Lib.bitLen n+7) / 8=(le n).length
 | n,h=>by
  rcases Nat.eq_zero_or_pos n with rfl | hp
  · rfl
  · rw [lr hp,List.length_cons]
    rcases Nat.lt_or_ge n 256 with hlt | hge
    · have h1:Lib.bitLen n≤8:=Lib.bitLen_le8 ⟨n,hlt⟩
      have h2:=Lib.bitLen_half n (by omega) h
      have:n / 256=0:=by omega
      rw [this,p7]
      simp; omega
    · rw [Lib.bitLen_shift8 n hge h,← me (n / 256) (by omega)]
      omega
 termination_by n=>n
 decreasing_by omega
theorem qp {n:Nat} (h:n < 18446744073709551616):Lib.bitLen n≤64:=by
 have h1:=me n h
 have h2:(le n).length≤8:=(cS 8 n).2 h
 omega
section
variable {P:Program} {w0:World} {F:List (Nat×Value)}
theorem s_stA {t e:TypeId} {x y:Operand} {b i:Nat} {c:UInt8} {v:Value} {bl:List UInt8} (hz:∀ w,(sizeOf t).run P w=.ok 1 w) (hx:ev F x=some (ptr b (0+i*1))) (hy:ev F y=some v) (hv:v=.int .u8 (c.toNat:Int)) (hi:i < bl.length) :
 Step P w0 F [.blk b (flat bl) e] (.store t x y) (·=undef) (fun _=>[.blk b (flat (bl.set i c)) e]):=by
 subst hv
 have hfl:(flat bl).length=bl.length:=by rw [bV]; exact Nat.mul_one _
 refine qK (k:=i) (us:=[.int .u8 (c.toNat:Int)]) hz (by simpa using hx) hy rfl rfl rfl (Nat.ble_eq_true_of_le (by omega)) ?_
 have:∀ (bl:List UInt8) (i:Nat),i < bl.length→spl (flat bl) i [.int .u8 (c.toNat:Int)]=flat (bl.set i c):=by
  intro bl
  induction bl with
  | nil=>intro i h; simp at h
  | cons u bl ih =>
   intro i h
   match i with
   | 0=>simp [spl,flat,Cod.enc]
   | i+1 =>
    have:=ih i (by simpa using h)
    simp only [spl,flat,List.flatMap_cons,Cod.enc,List.set_cons_succ] at this ⊢
    rw [← this]
    simp [Nat.add_right_comm]
 exact this bl i hi
end
def Mag (u n i:Nat) (bl:List UInt8):Prop:=bl.length=8∧∀ j,j < i→bl[n - 1 - j]?=some (UInt8.ofNat (u / 256 ^ j % 256))
theorem Mag.zero (u n:Nat):Mag u n 0 (List.replicate 8 0):=⟨by simp,fun j h=>by omega⟩
theorem Mag.next {u n i:Nat} {bl:List UInt8} (h:Mag u n i bl) (hi:i < n) (hn:n≤8):Mag u n (i+1) (bl.set (n - 1 - i) (UInt8.ofNat (u / 256 ^ i % 256))):=by
 refine ⟨by simp [h.1],fun j hj=>?_⟩
 by_cases e:j=i
 · subst e; rw [List.getElem?_set_self (by rw [h.1]; omega)]
 · rw [List.getElem?_set_ne (by omega)]; exact h.2 j (by omega)
theorem Mag.done {u n:Nat} {bl:List UInt8} (h:Mag u n n bl) (hn:n=(le u).length) (h8:n≤8):bl.take n=(le u).reverse:=by
 apply List.ext_getElem?
 intro j
 by_cases hj:j < n
 · rw [List.getElem?_take_of_lt hj]
   have h1:=h.2 (n - 1 - j) (by omega)
   rw [show n - 1 - (n - 1 - j)=j by omega] at h1
   rw [h1,List.getElem?_reverse (by omega),← hn,qT u (n - 1 - j) (by omega)]
 · rw [List.getElem?_eq_none (by simp; omega),List.getElem?_eq_none (by simp; omega)]
theorem Mag.flat {u n:Nat} {bl:List UInt8} (h:Mag u n n bl) (hn:n=(le u).length) (h8:n≤8):(flat bl).take n=flat (le u).reverse:=by
 have h1:=h.done hn h8
 have:Sx.flat bl=Sx.flat (bl.take n)++Sx.flat (bl.drop n):=by rw [← jn,List.take_append_drop]
 rw [this,h1,List.take_left' (by rw [bV,List.length_reverse,← hn]; exact Nat.mul_one _)]
def bK (u:Nat):Nat:=u
end Go.Sx
namespace Go.Sx
open Go Go.RowKit
def dgs (n v:Nat):List Nat:=(List.range n).map fun q=>v / 4294967296 ^ q % 4294967296
theorem cX (n v:Nat):(dgs n v).length=n:=by simp [dgs]
theorem d9 {n v q:Nat} (h:q < n):(dgs n v)[q]?=some (v / 4294967296 ^ q % 4294967296):=by simp [dgs,h]
theorem nH (n:Nat):dgs n 0=List.replicate n 0:=by
 apply List.ext_getElem?
 intro q
 by_cases h:q < n
 · rw [d9 h]; simp [h]
 · rw [List.getElem?_eq_none (by rw [cX]; omega),List.getElem?_eq_none (by simp; omega)]
theorem i6 (k:Nat):0 < 4294967296 ^ k:=Nat.pow_pos (by decide)
theorem zH {v s q:Nat} (h:v / 4294967296 ^ q % 4294967296+s < 4294967296) (j:Nat):(v+s*4294967296 ^ q) / 4294967296 ^ j % 4294967296=if j=q then v / 4294967296 ^ q % 4294967296+s else v / 4294967296 ^ j % 4294967296:=by
 by_cases e:j=q
 · subst e
   rw [if_pos rfl,Nat.add_mul_div_right _ _ (i6 j),Nat.add_mod,Nat.mod_eq_of_lt (show s < 4294967296 by omega),Nat.mod_eq_of_lt h]
 · rw [if_neg e]
   rcases Nat.lt_or_gt_of_ne e with hlt | hgt
   · obtain ⟨c,rfl⟩:∃ c,q=j+1+c:=⟨q - j - 1,by omega⟩
     have:s*4294967296 ^ (j+1+c)=(s*4294967296 ^ c*4294967296)*4294967296 ^ j:=by rw [Nat.pow_add,Nat.pow_succ]; simp only [Nat.mul_comm,Nat.mul_left_comm,Nat.mul_assoc]
     rw [this,Nat.add_mul_div_right _ _ (i6 j),Nat.add_mul_mod_self_right]
   · obtain ⟨c,rfl⟩:∃ c,j=q+1+c:=⟨j - q - 1,by omega⟩
     have e1:∀ x,x / 4294967296 ^ (q+1+c)=x / 4294967296 ^ q / 4294967296 / 4294967296 ^ c:=by
      intro x
      rw [Nat.pow_add,Nat.pow_succ,Nat.div_div_eq_div_mul,Nat.div_div_eq_div_mul,Nat.mul_assoc]
     rw [e1,e1,Nat.add_mul_div_right _ _ (i6 q)]
     have:(v / 4294967296 ^ q+s) / 4294967296=v / 4294967296 ^ q / 4294967296:=by omega
     rw [this]
theorem uI {n v s q:Nat} (h:v / 4294967296 ^ q % 4294967296+s < 4294967296):(dgs n v).set q (v / 4294967296 ^ q % 4294967296+s)=dgs n (v+s*4294967296 ^ q):=by
 apply List.ext_getElem?
 intro j
 by_cases hj:j < n
 · rw [d9 hj,zH h]
   by_cases e:j=q
   · subst e; rw [if_pos rfl,List.getElem?_set_self (by rw [cX]; exact hj)]
   · rw [if_neg e,List.getElem?_set_ne (Ne.symm e),d9 hj]
 · rw [List.getElem?_eq_none (by rw [List.length_set,cX]; omega),List.getElem?_eq_none (by rw [cX]; omega)]
def dn (m:Nat):Nat:=((le m).length+3) / 4
theorem r6 (m k:Nat):dn m≤k↔m < 4294967296 ^ k:=by
 have:4294967296 ^ k=256 ^ (4*k):=by rw [Nat.pow_mul]
 rw [this,← cS]
 unfold dn
 omega
theorem i5 (m:Nat):m < 4294967296 ^ dn m:=(r6 m _).1 (Nat.le_refl _)
theorem mod_next (m i:Nat):m % 256 ^ (i+1)=m % 256 ^ i+(m / 256 ^ i % 256)*256 ^ i:=by
 rw [Nat.pow_succ,Nat.mod_mul,Nat.mul_comm]
theorem rC (i:Nat):256 ^ i=2 ^ (8*(i % 4))*4294967296 ^ (i / 4):=by
 have:4294967296 ^ (i / 4)=256 ^ (4*(i / 4)):=by rw [Nat.pow_mul]
 rw [this,← yu,← Nat.pow_add]
 congr 1
 omega
theorem tR (m i:Nat):m % 256 ^ i / 4294967296 ^ (i / 4) % 4294967296 < 2 ^ (8*(i % 4))∧m % 256 ^ i / 4294967296 ^ (i / 4) % 4294967296=m % 256 ^ i / 4294967296 ^ (i / 4):=by
 have h1:m % 256 ^ i < 256 ^ i:=Nat.mod_lt _ (Nat.pow_pos (by decide))
 rw [rC i] at h1
 have h2:m % 256 ^ i / 4294967296 ^ (i / 4) < 2 ^ (8*(i % 4)):=by
  rw [Nat.div_lt_iff_lt_mul (i6 _),rC i]
  exact h1
 have h3:2 ^ (8*(i % 4))≤2 ^ 24:=Nat.pow_le_pow_right (by decide) (by omega)
 have h4:m % 256 ^ i / 4294967296 ^ (i / 4) % 4294967296=m % 256 ^ i / 4294967296 ^ (i / 4):=Nat.mod_eq_of_lt (Nat.lt_trans (Nat.lt_of_lt_of_le h2 h3) (by decide))
 exact ⟨by rw [h4]; exact h2,h4⟩
theorem rc (m i:Nat):m / 256 ^ i % 256*2 ^ (8*(i % 4)) < 4294967296∧m % 256 ^ i / 4294967296 ^ (i / 4) % 4294967296+m / 256 ^ i % 256*2 ^ (8*(i % 4)) < 4294967296:=by
 have h1:=(tR m i).1
 have h2:m / 256 ^ i % 256≤255:=by omega
 have h3:i % 4 < 4:=Nat.mod_lt _ (by decide)
 have key:m / 256 ^ i % 256*2 ^ (8*(i % 4))≤255*2 ^ (8*(i % 4)):=Nat.mul_le_mul_right _ h2
 have:i % 4=0∨i % 4=1∨i % 4=2∨i % 4=3:=by omega
 rcases this with e | e | e | e <;> rw [e] at key h1 ⊢ <;> simp only [Nat.mul_zero,Nat.mul_one,Nat.reduceMul,Nat.reducePow] at key h1 ⊢ <;> exact ⟨by omega,by omega⟩
theorem dig_next {n m i:Nat}:(dgs n (m % 256 ^ i)).set (i / 4) (m % 256 ^ i / 4294967296 ^ (i / 4) % 4294967296+m / 256 ^ i % 256*2 ^ (8*(i % 4)))=dgs n (m % 256 ^ (i+1)):=by
 rw [uI (rc m i).2,mod_next]
 congr 2
 rw [rC i,Nat.mul_assoc]
def mD (m:Nat):List Nat:=dgs (dn m) m
end Go.Sx
namespace Go.Sx
open Go Go.RowKit
def mx (a i t:Nat):Nat:=a / 4294967296 ^ i*4294967296 ^ i+t % 4294967296 ^ i
theorem rN (a t:Nat):mx a 0 t=a:=by simp [mx,Nat.mod_one]
theorem ta {a i t:Nat} (ha:a < 4294967296 ^ i) (ht:t < 4294967296 ^ i):mx a i t=t:=by
 unfold mx; rw [Nat.div_eq_of_lt ha,Nat.mod_eq_of_lt ht]; simp
theorem mx_div {a i t:Nat} (j:Nat):mx a i t / 4294967296 ^ (i+j)=a / 4294967296 ^ (i+j):=by
 unfold mx
 rw [Nat.pow_add,← Nat.div_div_eq_div_mul,← Nat.div_div_eq_div_mul,Nat.mul_comm,Nat.mul_add_div (i6 i),Nat.div_eq_of_lt (Nat.mod_lt _ (i6 i)),Nat.add_zero]
theorem mi {a i t:Nat} {j:Nat} (h:i≤j):mx a i t / 4294967296 ^ j % 4294967296=a / 4294967296 ^ j % 4294967296:=by
 obtain ⟨c,rfl⟩:∃ c,j=i+c:=⟨j - i,by omega⟩
 rw [mx_div]
theorem qR {a i t:Nat} {j:Nat} (h:j < i):mx a i t / 4294967296 ^ j % 4294967296=t / 4294967296 ^ j % 4294967296:=by
 obtain ⟨c,rfl⟩:∃ c,i=j+1+c:=⟨i - j - 1,by omega⟩
 have h1:∀ x,x / 4294967296 ^ j % 4294967296=x % 4294967296 ^ (j+1+c) / 4294967296 ^ j % 4294967296:=by
  intro x
  have e:4294967296 ^ (j+1+c)=4294967296 ^ j*(4294967296*4294967296 ^ c):=by rw [Nat.pow_add,Nat.pow_succ,Nat.mul_assoc]
  rw [e,Nat.mod_mul_right_div_self,Nat.mod_mul_right_mod]
 rw [h1 (mx _ _ _),h1 t]
 unfold mx
 rw [Nat.mul_add_mod_self_right,Nat.mod_mod]
theorem mC {n a i t:Nat}:(dgs n (mx a i t)).set i (t / 4294967296 ^ i % 4294967296)=dgs n (mx a (i+1) t):=by
 apply List.ext_getElem?
 intro j
 by_cases hj:j < n
 · rw [d9 hj]
   by_cases e:j=i
   · subst e
     rw [List.getElem?_set_self (by rw [cX]; exact hj),qR (by omega)]
   · rw [List.getElem?_set_ne (Ne.symm e),d9 hj]
     rcases Nat.lt_or_gt_of_ne e with h | h
     · rw [qR h,qR (by omega)]
     · rw [mi (by omega),mi (by omega)]
 · rw [List.getElem?_eq_none (by rw [List.length_set,cX]; omega),List.getElem?_eq_none (by rw [cX]; omega)]
theorem vT {n k v:Nat} (h:k≤n):(dgs n v).take k=dgs k v:=by
 unfold dgs
 rw [← List.map_take,List.take_range,Nat.min_eq_left h]
theorem dgs_more {n k v:Nat} (h:v < 4294967296 ^ n):dgs n v++List.replicate k 0=dgs (n+k) v:=by
 apply List.ext_getElem?
 intro j
 by_cases hj:j < n
 · rw [List.getElem?_append_left (by rw [cX]; exact hj),d9 hj,d9 (by omega)]
 · rw [List.getElem?_append_right (by rw [cX]; omega),cX]
   by_cases hk:j < n+k
   · rw [d9 hk,List.getElem?_replicate,if_pos (by omega)]
     obtain ⟨c,rfl⟩:∃ c,j=n+c:=⟨j - n,by omega⟩
     rw [Nat.pow_add,← Nat.div_div_eq_div_mul,Nat.div_eq_of_lt h,Nat.zero_div]
   · rw [List.getElem?_eq_none (by simp; omega),List.getElem?_eq_none (by rw [cX]; omega)]
theorem yO {v n:Nat} (h:4294967296 ^ n≤v) (h':v < 4294967296 ^ (n+1)):v / 4294967296 ^ n % 4294967296≠0:=by
 have h1:v / 4294967296 ^ n < 4294967296:=by rw [Nat.div_lt_iff_lt_mul (i6 n),Nat.mul_comm]; rwa [Nat.pow_succ] at h'
 have h2:0 < v / 4294967296 ^ n:=Nat.div_pos h (i6 n)
 rw [Nat.mod_eq_of_lt h1]; omega
theorem xG {v n:Nat} (h:v < 4294967296 ^ n) (hn:0 < n) (hz:v / 4294967296 ^ (n - 1) % 4294967296=0):v < 4294967296 ^ (n - 1):=by
 refine Nat.lt_of_not_le fun hle=>yO hle (by rwa [show n - 1+1=n by omega]) hz
theorem xH {v n:Nat} (h:v < 4294967296 ^ n) (hz:n=0∨v / 4294967296 ^ (n - 1) % 4294967296≠0):dn v=n:=by
 refine Nat.le_antisymm ((r6 v n).2 h) (Nat.le_of_not_lt fun hlt=>?_)
 have h1:=i5 v
 have h2:v < 4294967296 ^ (n - 1):=Nat.lt_of_lt_of_le h1 (Nat.pow_le_pow_right (by decide) (by omega))
 rcases hz with hz | hz
 · omega
 · rw [Nat.div_eq_of_lt h2] at hz; exact hz rfl
def bz (n p v:Nat):List UInt8:=(List.range n).map fun q=>if n - 1 - q < p then UInt8.ofNat (v / 256 ^ (n - 1 - q) % 256) else 0
theorem md (n p v:Nat):(bz n p v).length=n:=by simp [bz]
theorem rb {n p v q:Nat} (h:q < n):(bz n p v)[q]?=some (if n - 1 - q < p then UInt8.ofNat (v / 256 ^ (n - 1 - q) % 256) else 0):=by simp [bz,h]
theorem z8 (n v:Nat):List.replicate n 0=bz n 0 v:=by
 apply List.ext_getElem?
 intro q
 by_cases h:q < n
 · rw [rb h]; simp [h]
 · rw [List.getElem?_eq_none (by simp; omega),List.getElem?_eq_none (by rw [md]; omega)]
theorem aaa {n p v:Nat} (h:p < n) {c:UInt8} (hc:c=UInt8.ofNat (v / 256 ^ p % 256)):(bz n p v).set (n - 1 - p) c=bz n (p+1) v:=by
 subst hc
 apply List.ext_getElem?
 intro q
 by_cases hq:q < n
 · rw [rb hq]
   by_cases e:q=n - 1 - p
   · subst e
     rw [List.getElem?_set_self (by rw [md]; exact hq),if_pos (by omega),show n - 1 - (n - 1 - p)=p by omega]
   · rw [List.getElem?_set_ne (Ne.symm e),rb hq]
     by_cases h1:n - 1 - q < p
     · rw [if_pos h1,if_pos (by omega)]
     · rw [if_neg h1,if_neg (by omega)]
 · rw [List.getElem?_eq_none (by rw [List.length_set,md]; omega),List.getElem?_eq_none (by rw [md]; omega)]
theorem w7 (v i k:Nat) (hk:k < 4):v / 4294967296 ^ i % 4294967296 / 256 ^ k % 256=v / 256 ^ (4*i+k) % 256:=by
 have e1:4294967296 ^ i=256 ^ (4*i):=by rw [Nat.pow_mul]
 rw [Nat.pow_add,← e1,← Nat.div_div_eq_div_mul]
 generalize v / 4294967296 ^ i=x
 have:k=0∨k=1∨k=2∨k=3:=by omega
 rcases this with rfl | rfl | rfl | rfl <;> simp only [Nat.reducePow,Nat.pow_zero,Nat.pow_one,Nat.div_one] <;> omega
theorem bz_all {n v:Nat} (h:v < 256 ^ n):bz n n v=List.replicate (n - (le v).length) 0++(le v).reverse:=by
 have hl:=(cS n v).2 h
 apply List.ext_getElem?
 intro q
 by_cases hq:q < n
 · rw [rb hq,if_pos (by omega)]
   by_cases h1:q < n - (le v).length
   · rw [List.getElem?_append_left (by simpa using h1),List.getElem?_replicate,if_pos h1]
     have:v < 256 ^ (n - 1 - q):=Nat.lt_of_lt_of_le (qz v) (Nat.pow_le_pow_right (by decide) (by omega))
     rw [Nat.div_eq_of_lt this]; rfl
   · rw [List.getElem?_append_right (by simpa using h1),List.length_replicate,List.getElem?_reverse (by omega),qT v _ (by omega)]
     congr 5; omega
 · rw [List.getElem?_eq_none (by rw [md]; omega),List.getElem?_eq_none (by simp; omega)]
theorem le_last {v:Nat} (h:0 < v):∃ c l,(le v).reverse=c::l∧c≠0:=by
 have hp:0 < (le v).length:=by rw [lr h]; simp
 have hg:(le v).reverse[0]?=some (UInt8.ofNat (v / 256 ^ ((le v).length - 1) % 256)):=by
  rw [List.getElem?_reverse hp,Nat.sub_zero,qT v _ (by omega)]
 cases hr:(le v).reverse with
 | nil=>rw [hr] at hg; simp at hg
 | cons c l =>
  rw [hr] at hg
  refine ⟨c,l,rfl,?_⟩
  have hc:c=UInt8.ofNat (v / 256 ^ ((le v).length - 1) % 256):=by simpa using hg
  rw [hc]
  have h1:=nB h
  have h2:=qz v
  have h3:v / 256 ^ ((le v).length - 1) < 256:=by
   rw [Nat.div_lt_iff_lt_mul (Nat.pow_pos (by decide)),Nat.mul_comm,← Nat.pow_succ,show ((le v).length - 1).succ=(le v).length by omega]
   exact h2
  have h4:0 < v / 256 ^ ((le v).length - 1):=Nat.div_pos h1 (Nat.pow_pos (by decide))
  intro e
  have h5:=congrArg UInt8.toNat e
  rw [UInt8.toNat_ofNat'] at h5
  have:(0:UInt8).toNat=0:=rfl
  rw [this] at h5
  omega
theorem bz_trim {n v:Nat} (h:v < 256 ^ n):(⟨(Lib.trimLeftB (bz n n v) 0).toArray⟩:ByteArray)=bs v:=by
 have h0:Lib.trimLeftB (bz n n v) 0=(le v).reverse:=by
  rw [bz_all h]
  unfold Lib.trimLeftB
  have h1:∀ (k:Nat) (l:List UInt8),(List.replicate k 0++l).dropWhile (· == 0)=l.dropWhile (· == 0):=by
   intro k l
   induction k with
   | zero=>simp
   | succ k ih=>simp [List.replicate_succ,ih]
  rw [h1]
  rcases Nat.eq_zero_or_pos v with rfl | hv
  · rfl
  · obtain ⟨c,l,hl,hc⟩:=le_last hv
    rw [hl,List.dropWhile_cons_of_neg (by simpa using hc)]
 unfold bs; rw [h0]
theorem dn_pow {v n:Nat}:v < 4294967296 ^ n↔v < 256 ^ (4*n):=by rw [show 4294967296 ^ n=256 ^ (4*n) by rw [Nat.pow_mul]]
theorem kX {S e m:Nat}:(S+e*4294967296 ^ m) / 4294967296 ^ m=S / 4294967296 ^ m+e∧(S+e*4294967296 ^ m) / 4294967296 ^ (m+1)=(S / 4294967296 ^ m+e) / 4294967296:=by
 have h1:(S+e*4294967296 ^ m) / 4294967296 ^ m=S / 4294967296 ^ m+e:=Nat.add_mul_div_right _ _ (i6 m)
 exact ⟨h1,by rw [Nat.pow_succ,← Nat.div_div_eq_div_mul,h1]⟩
theorem kb (v m:Nat):v % 4294967296 ^ (m+1)=v % 4294967296 ^ m+(v / 4294967296 ^ m % 4294967296)*4294967296 ^ m:=by rw [Nat.pow_succ,Nat.mod_mul,Nat.mul_comm]
def cy (a b i:Nat):Nat:=(a % 4294967296 ^ i+b % 4294967296 ^ i) / 4294967296 ^ i
theorem zK (a b:Nat):cy a b 0=0:=by simp [cy,Nat.mod_one]
theorem cy_le (a b i:Nat):cy a b i≤1:=by
 have h1:=Nat.mod_lt a (i6 i)
 have h2:=Nat.mod_lt b (i6 i)
 unfold cy
 have:(a % 4294967296 ^ i+b % 4294967296 ^ i) / 4294967296 ^ i < 2:=by rw [Nat.div_lt_iff_lt_mul (i6 i)]; omega
 omega
theorem cy_sum (a b i:Nat):(a % 4294967296 ^ (i+1)+b % 4294967296 ^ (i+1))=(a % 4294967296 ^ i+b % 4294967296 ^ i)+(a / 4294967296 ^ i % 4294967296+b / 4294967296 ^ i % 4294967296)*4294967296 ^ i:=by
 rw [kb,kb,Nat.add_mul]; omega
theorem zL (a b i:Nat):cy a b (i+1)=(cy a b i+(a / 4294967296 ^ i % 4294967296+b / 4294967296 ^ i % 4294967296)) / 4294967296:=by
 unfold cy
 rw [cy_sum]
 exact kX.2
theorem r8 (a b i:Nat):(a+b) / 4294967296 ^ i % 4294967296=(cy a b i+(a / 4294967296 ^ i % 4294967296+b / 4294967296 ^ i % 4294967296)) % 4294967296:=by
 have h1:(a+b) / 4294967296 ^ i % 4294967296=(a % 4294967296 ^ (i+1)+b % 4294967296 ^ (i+1)) / 4294967296 ^ i % 4294967296:=by
  have e:∀ x,x / 4294967296 ^ i % 4294967296=x % 4294967296 ^ (i+1) / 4294967296 ^ i:=fun x=>by rw [Nat.pow_succ,Nat.mod_mul_right_div_self]
  rw [e,e (_+_),Nat.add_mod]
 rw [h1,cy_sum,kX.1]; rfl
def bw (a b i:Nat):Nat:=if a % 4294967296 ^ i < b % 4294967296 ^ i then 1 else 0
theorem aab (a b:Nat):bw a b 0=0:=by simp [bw,Nat.mod_one]
theorem aad (a b i:Nat):bw a b i≤1:=by unfold bw; split <;> omega
theorem bw_eq (a b i:Nat):∃ t,a % 4294967296 ^ i+bw a b i*4294967296 ^ i=b % 4294967296 ^ i+t∧t < 4294967296 ^ i:=by
 have h1:=Nat.mod_lt a (i6 i)
 have h2:=Nat.mod_lt b (i6 i)
 unfold bw
 split
 · exact ⟨a % 4294967296 ^ i+1*4294967296 ^ i - b % 4294967296 ^ i,by omega,by omega⟩
 · exact ⟨a % 4294967296 ^ i - b % 4294967296 ^ i,by omega,by omega⟩
theorem aac {a b i:Nat} {x y:Nat} (hx:a / 4294967296 ^ i % 4294967296=x) (hy:b / 4294967296 ^ i % 4294967296=y) (h:b≤a):bw a b (i+1)=(if x < bw a b i+y then 1 else 0)∧(a - b) / 4294967296 ^ i % 4294967296=(if x < bw a b i+y then x+4294967296 - bw a b i - y else x - bw a b i - y):=by
 obtain ⟨t,ht,htl⟩:=bw_eq a b i
 have hbl:=aad a b i
 have hxl:x < 4294967296:=by rw [← hx]; exact Nat.mod_lt _ (by decide)
 have hyl:y < 4294967296:=by rw [← hy]; exact Nat.mod_lt _ (by decide)
 have ea:=kb a i
 have eb:=kb b i
 rw [hx] at ea
 rw [hy] at eb
 have hd:∃ d,d < 4294967296∧d+bw a b i+y=x+(if x < bw a b i+y then 1 else 0)*4294967296:=by
  split
  · exact ⟨x+4294967296 - bw a b i - y,by omega,by omega⟩
  · exact ⟨x - bw a b i - y,by omega,by omega⟩
 obtain ⟨d,hdl,hde⟩:=hd
 have hP:=i6 i
 have key:a % 4294967296 ^ (i+1)+(if x < bw a b i+y then 1 else 0)*4294967296 ^ (i+1)=b % 4294967296 ^ (i+1)+(t+d*4294967296 ^ i):=by
  rw [ea,eb,Nat.pow_succ]
  have e1:(d+bw a b i+y)*4294967296 ^ i=(x+(if x < bw a b i+y then 1 else 0)*4294967296)*4294967296 ^ i:=by rw [hde]
  simp only [Nat.add_mul] at e1
  have e2:(if x < bw a b i+y then 1 else 0)*(4294967296 ^ i*4294967296)=(if x < bw a b i+y then 1 else 0)*4294967296*4294967296 ^ i:=by rw [Nat.mul_assoc,Nat.mul_comm 4294967296]
  rw [e2]
  omega
 have hs:t+d*4294967296 ^ i < 4294967296 ^ (i+1):=by
  rw [Nat.pow_succ]
  have:(d+1)*4294967296 ^ i≤4294967296*4294967296 ^ i:=Nat.mul_le_mul_right _ (by omega)
  rw [Nat.add_mul,Nat.one_mul,Nat.mul_comm 4294967296] at this
  omega
 have hal:=Nat.mod_lt a (i6 (i+1))
 have hbl':=Nat.mod_lt b (i6 (i+1))
 have hc:bw a b (i+1)=(if x < bw a b i+y then 1 else 0):=by
  conv=>lhs; unfold bw
  split at key <;> split <;> simp_all <;> omega
 refine ⟨hc,?_⟩
 have hab:(a - b) % 4294967296 ^ (i+1)=t+d*4294967296 ^ i:=by
  have hA:=Nat.div_add_mod a (4294967296 ^ (i+1))
  have hB:=Nat.div_add_mod b (4294967296 ^ (i+1))
  generalize 4294967296 ^ (i+1)=M at *
  generalize a / M=A at *
  generalize b / M=C at *
  have hK:∃ K,a - b=M*K+(t+d*4294967296 ^ i):=by
   split at key
   · have h1:C+1≤A:=Nat.lt_of_not_le fun hle=>by
      have:=Nat.mul_le_mul_left M hle
      omega
     have h2:=Nat.mul_le_mul_left M h1
     refine ⟨A - (C+1),?_⟩
     rw [Nat.mul_sub]
     rw [Nat.mul_add] at *
     omega
   · have h1:C≤A:=Nat.le_of_not_lt fun hlt=>by
      have:=Nat.mul_le_mul_left M (show A+1≤C from hlt)
      rw [Nat.mul_add] at this
      omega
     have h2:=Nat.mul_le_mul_left M h1
     refine ⟨A - C,?_⟩
     rw [Nat.mul_sub]
     omega
  obtain ⟨K,hK⟩:=hK
  rw [hK,Nat.mul_add_mod,Nat.mod_eq_of_lt hs]
 have e:∀ x,x / 4294967296 ^ i % 4294967296=x % 4294967296 ^ (i+1) / 4294967296 ^ i:=fun x=>by rw [Nat.pow_succ,Nat.mod_mul_right_div_self]
 rw [e,hab,kX.1,Nat.div_eq_of_lt htl]
 split at hde <;> split <;> omega
end Go.Sx
namespace Go.Sx
open Go Go.RowKit
def nP (sv:Value) (n:Nat):Value:=match sv with | .slice a _ c=>.slice a n c | _=>undef
section
variable {P:Program} {w0:World} {N:Nat} {F:List (Nat×Value)} {L:List Asn} {a:Act} {w:World} {ops:Array Oper} {Q:Exit→Act→World→Prop} {rest:List Oper}
 {d:Nat} {op:Op} {ty:TypeId} {pos:String} {aft:Array Edge}
theorem tH {α:Type} [Cod α] {xs:List α} {n:Nat} (hn:n≤xs.length):flat (xs.take n)=(flat xs).take (n*Cod.n α):=by
 have:flat xs=flat (xs.take n)++flat (xs.drop n):=by rw [← jn,List.take_append_drop]
 rw [this,List.take_left' (by rw [bV,List.length_take,Nat.min_eq_left hn])]
theorem View.cut {α:Type} [Cod α] {sv:Value} {xs:List α} {n:Nat} (h:View w sv xs) (hn:n≤xs.length):View w (nP sv n) (xs.take n):=by
 obtain ⟨⟨h0,hc⟩,h1⟩:=h
 have hl:(xs.take n).length=n:=by rw [List.length_take]; omega
 rcases h1 with ⟨rfl,rfl⟩ | ⟨g,off,cap,cur,e,fr,rfl,hh,hx⟩
 · have:n=0:=by simpa using hn
   subst this
   exact ⟨⟨by simp,by simp [nP,tY]⟩,.inl ⟨rfl,by simp⟩⟩
 · refine ⟨⟨by omega,?_⟩,.inr ⟨g,off,cap,cur,e,fr,by rw [hl]; rfl,hh,fun j hj=>?_⟩⟩
   · simp only [tY,nP] at hc ⊢; omega
   · rw [tH hn] at hj ⊢
     have hj2:=hj
     rw [List.length_take] at hj2
     rw [List.getElem?_take_of_lt (by omega)]
     exact hx j (by omega)
theorem View.cap {α:Type} [Cod α] {sv:Value} {xs:List α} (h:View w sv xs):xs.length≤tY sv:=h.1.2
theorem r_cut {α:Type} [Cod α] {t e':TypeId} {x y:Operand} {sv:Value} {xs:List α} {k:IntKind} {n:Nat} {w1:World} (hu:∀ w,(underlying t).run P w=.ok (.slice e') w) (hz:∀ w,(sizeOf e').run P w=.ok (Cod.n α) w) (hx:ev F x=some sv) (hy:ev F y=some (.int k (n:Int))) (hv:View w1 sv xs) (hn:n≤xs.length) :
 Rd P w0 F [] (.slice t x none (some y) none) (nP sv n):=by
 refine dP fun o a w ho ha=>?_
 have hc:=hv.cap
 obtain ⟨_,⟨rfl,rfl⟩ | ⟨g,off,cap,cur,e,fr,rfl,_⟩⟩:=hv
 · have:n=0:=by simpa using hn
   subst this
   simp [execOp,ho,Instr.sliceAt,Instr.slice,Instr.sliceBounds,Instr.sliceBound,asIntOf,ha x _ hx,ha y _ hy,hu w,hz w,nP]
 · simp only [tY] at hc
   have h1:(n:Int)≤(cap:Int):=by omega
   by_cases hc0:cap=0
   · simp [execOp,ho,Instr.sliceAt,Instr.slice,Instr.sliceBounds,Instr.sliceBound,asIntOf,ha x _ hx,ha y _ hy,hu w,hz w,h1,hc0,nP]
     omega
   · simp [execOp,ho,Instr.sliceAt,Instr.slice,Instr.sliceBounds,Instr.sliceBound,asIntOf,ha x _ hx,ha y _ hy,hu w,hz w,h1,hc0,nP,Addr.add]
     omega
theorem ux {α:Type} [Cod α] {lo:Nat} {e:TypeId} {sv:Value} {xs:List α} {n:Nat} (h:w.ownsRow lo e (Cod.n α) sv xs.length (flat xs)) (hn:n≤xs.length):w.ownsRow lo e (Cod.n α) (nP sv n) (xs.take n).length (flat (xs.take n)):=by
 have hl:(xs.take n).length=n:=by rw [List.length_take]; omega
 obtain ⟨_,⟨rfl,h0⟩ | ⟨g,cap,cur,rfl,hb,hh,hc,hm,hs,ht⟩⟩:=h
 · have:n=0:=by omega
   subst this
   exact ⟨by rw [bV],.inl ⟨rfl,by rw [hl]⟩⟩
 · refine ⟨by rw [bV],.inr ⟨g,cap,cur,by rw [hl]; rfl,hb,hh,by omega,hm,hs,?_⟩⟩
   rw [hl,tH hn,← ht,List.take_take,Nat.min_eq_left (Nat.mul_le_mul_right _ hn)]
theorem cutv_own {sv:Value} {m n:Nat} (h:SL sv m):(nP sv n).ownBlock=sv.ownBlock:=by
 obtain ⟨g,c,rfl⟩:=h
 cases g <;> rfl
theorem St.rowcut {α:Type} [Cod α] {e:TypeId} {sv:Value} {xs:List α} (h:St w0 N F L a w) (i n:Nat) (hi:L[i]?=some (Asn.row e sv xs)) (hn:n≤xs.length):St w0 N F (L.set i (.row e (nP sv n) (xs.take n))) a w:=by
 obtain ⟨U,hU⟩:=h.sep
 obtain ⟨B,hp,hp'⟩:=eZ (Asn.row e (nP sv n) (xs.take n)) hi
 obtain ⟨f,V,hUV,hd,hf,⟨hr,ho⟩,hB⟩:=Sep.perm hp hU
 exact ⟨h.size,h.defers,h.regs,h.bel,U,Sep.perm hp' ⟨f,V,hUV,hd,hf,⟨ux hr hn,fun k=>by rw [cutv_own (wL hr)]; exact ho k⟩,hB⟩⟩
theorem St.rowEq {α:Type} [Cod α] {e:TypeId} {sv:Value} {xs ys:List α} (h:St w0 N F L a w) (i:Nat) (hi:L[i]?=some (Asn.row e sv xs)) (hx:xs=ys):St w0 N F (L.set i (.row e sv ys)) a w:=by
 subst hx
 obtain ⟨hl,he⟩:=List.getElem?_eq_some_iff.1 hi
 have:L.set i (.row e sv xs)=L:=by rw [← he]; exact List.set_getElem_self hl
 rw [this]; exact h
theorem yw {α:Type} {L:List α} {i j:Nat} {r s:α} (r' s':α) (hij:i≠j) (hi:L[i]?=some r) (hj:L[j]?=some s):∃ B,L.Perm (r::s::B)∧(r'::s'::B).Perm ((L.set i r').set j s'):=by
 have hil:i < L.length:=(List.getElem?_eq_some_iff.1 hi).1
 have hri:L[i]=r:=(List.getElem?_eq_some_iff.1 hi).2
 have h1:=jj hil
 rw [hri] at h1
 have h2:(((L.set j s').set i r')).Perm (r'::(L.set j s').eraseIdx i):=by
  have:=jj (L:=(L.set j s').set i r') (i:=i) (by simpa using hil)
  rwa [List.getElem_set_self,List.eraseIdx_set_eq] at this
 rw [List.set_comm _ _ hij]
 rcases Nat.lt_or_gt_of_ne hij with h | h
 · obtain ⟨B,h3,h4⟩:=eZ s' (L:=L.eraseIdx i) (i:=j - 1) (r:=s) (by rw [List.getElem?_eraseIdx_of_ge (by omega),show j - 1+1=j by omega]; exact hj)
   refine ⟨B,h1.trans (h3.cons r),?_⟩
   rw [List.eraseIdx_set_lt h] at h2
   exact (h4.cons r').trans h2.symm
 · obtain ⟨B,h3,h4⟩:=eZ s' (L:=L.eraseIdx i) (i:=j) (r:=s) (by rw [List.getElem?_eraseIdx_of_lt h]; exact hj)
   refine ⟨B,h1.trans (h3.cons r),?_⟩
   rw [List.eraseIdx_set_gt h] at h2
   exact (h4.cons r').trans h2.symm
theorem up2 (h:St w0 N F L a w) (i j:Nat) (hij:i≠j) {r s r' s':Asn} {v:Value} (hi:L[i]?=some r) (hj:L[j]?=some s) (hs:Step P w0 F [r,s] op (·=v) (fun _=>[r',s'])) (hd:Nat.blt d N=true)
 (k:∀ a w,St w0 N ((d,v)::F) ((L.set i r').set j s') a w→wpList P ops Q rest a w):wpList P ops Q (⟨some d,op,ty,pos,aft,none⟩::rest) a w :=
 wpList_plain rfl fun _ hK=>by
  obtain ⟨B,hp,hp'⟩:=yw r' s' hij hi hj
  refine h.gen (A:=[r,s]) (B:=B) hp hs _ rfl fun v' _ U hv hb hs'=>?_
  subst hv
  exact hK _ _ (k _ _ (h.put hd v' hb (U:=U) (hs'.perm hp')))
theorem r_ext {f:FuncId} {args:Array Operand} {ats:Array TypeId} {vs:List Value} {v:Value} (ha:evs F args.toList=some vs) (hc:∀ w,(callFunc f vs.toArray).run P w=.ok (.value v) w):Rd P w0 F [] (.call ⟨.value (.func f),args,ats⟩) v :=
 dP fun o a w ho hg=>by
  have h1:args.map a.eval=vs.toArray:=by
   apply Array.ext'
   simp [Array.toList_map,hg.evs ha]
  have h2:a.eval (.func f)=.func (.func f) #[] #[]:=rfl
  simp [execOp,ho,resolve,Deferred.ofValue,h1,h2,invoke,hc]
theorem b_norm {id:Nat} (h:Q .normal a w):Exit.inBlock id Q .normal a w:=h
end
end Go.Sx
namespace Go.Sx
open Go Go.RowKit
section
variable {w0:World} {N:Nat} {F:List (Nat×Value)} {L:List Asn} {a:Act} {w:World}
theorem St.dsl (h:St w0 N F L a w) (i:Nat) {e:TypeId} {sv:Value} {n v:Nat} (hi:L[i]?=some (Asn.row e sv (dgs n v))):SL sv n:=by
 have:=h.row_sl i hi; rwa [cX] at this
theorem St.dnn (h:St w0 N F L a w) (i:Nat) {e:TypeId} {sv:Value} {n v:Nat} (hi:L[i]?=some (Asn.row e sv (dgs n v))) (hn:0 < n):NN sv n:=by
 have:=h.row_nn i hi (by rw [cX]; exact hn); rwa [cX] at this
theorem View.dsl {sv:Value} {n v:Nat} (h:View w sv (dgs n v)):SL sv n:=by
 have:=h.sl; rwa [cX] at this
theorem View.dnn {sv:Value} {n v:Nat} (h:View w sv (dgs n v)) (hn:0 < n):NN sv n:=by
 have:=h.nn (i:=0) (by rw [cX]; exact hn); rwa [cX] at this
theorem View.cutn {sv:Value} {n m v:Nat} (h:View w sv (dgs n v)) (hm:m≤n):View w (nP sv m) (dgs m v):=by
 have:=h.cut (n:=m) (by rw [cX]; exact hm); rwa [vT hm] at this
theorem View.cutd {sv:Value} {n v:Nat} (h:View w sv (dgs n v)) (hv:v < 4294967296 ^ n):View w (nP sv (dn v)) (dgs (dn v) v):=h.cutn ((r6 _ _).2 hv)
theorem qj {sv:Value} {n:Nat} (h:SL sv n):nP sv n=sv:=by obtain ⟨a,c,rfl⟩:=h; rfl
theorem cutv_cut {sv:Value} {k m n:Nat} (h:SL sv k):nP (nP sv m) n=nP sv n:=by obtain ⟨a,c,rfl⟩:=h; rfl
theorem vY {n m v:Nat} (hv:v < 4294967296 ^ n) (h:n≤m):dgs n v++(List.replicate m 0).drop (dgs n v).length=dgs m v:=by
 rw [cX,List.drop_replicate,dgs_more hv,show n+(m - n)=m by omega]
theorem dlen_le {sv:Value} {n v:Nat} (h:View w sv (dgs n v)):n≤maxLen:=by have:=h.1.1; rwa [cX] at this
end
end Go.Sx
namespace Go.Sx
open Go Go.RowKit
theorem jb {n a i t:Nat} (h:i < n):(dgs n (mx a i t))[i]?=some (a / 4294967296 ^ i % 4294967296):=by rw [d9 h,mi (Nat.le_refl _)]
theorem r7 {v i n:Nat} (h:v < 4294967296 ^ n) (hi:n≤i):v / 4294967296 ^ i % 4294967296=0:=by
 rw [Nat.div_eq_of_lt (Nat.lt_of_lt_of_le h (Nat.pow_le_pow_right (by decide) hi))]
theorem kr {k m:Nat} (h:SzB k m):(le m).length≤70368744177664:=by
 unfold SzB at h
 have:=Nat.le_mul_of_pos_right (le m).length (Nat.pow_pos (n:=k) (show 0 < 2 by decide))
 omega
theorem ij {k m:Nat} (h:SzB k m):dn m≤17592186044416:=by
 have:=kr h
 unfold dn; omega
theorem mf {k m:Nat} (h:SzB (k+1) m):dn m≤8796093022208:=by
 unfold SzB at h
 rw [Nat.pow_succ,← Nat.mul_assoc] at h
 have:=Nat.le_mul_of_pos_right (le m).length (Nat.pow_pos (n:=k) (show 0 < 2 by decide))
 unfold dn; omega
theorem uC {a b:Nat} (h:a≤b):(le a).length≤(le b).length:=(cS _ _).2 (Nat.lt_of_le_of_lt h (qz b))
theorem ip {k a b:Nat} (h:SzB k b) (hab:a≤b):SzB k a:=Nat.le_trans (Nat.mul_le_mul_right _ (uC hab)) h
theorem wS (a b:Nat) (h:0 < a∨0 < b):(le (a+b)).length≤(le a).length+(le b).length:=by
 have ha:=qz a
 have hb:=qz b
 rw [cS,Nat.pow_add]
 have h1:1≤256 ^ (le a).length:=Nat.pow_pos (by decide)
 have h2:1≤256 ^ (le b).length:=Nat.pow_pos (by decide)
 generalize 256 ^ (le a).length=x at *
 generalize 256 ^ (le b).length=y at *
 obtain ⟨x,rfl⟩:∃ x',x=x'+1:=⟨x - 1,by omega⟩
 obtain ⟨y,rfl⟩:∃ y',y=y'+1:=⟨y - 1,by omega⟩
 rw [Nat.mul_add,Nat.add_mul]
 have:a*b≤x*y:=Nat.mul_le_mul (by omega) (by omega)
 omega
theorem aas {k a b m:Nat} (ha:SzB (k+1) a) (hb:SzB (k+1) b) (h:(le m).length≤(le a).length+(le b).length):SzB k m:=by
 unfold SzB at *
 rw [Nat.pow_succ,← Nat.mul_assoc] at ha hb
 have:=Nat.mul_le_mul_right (2 ^ k) h
 rw [Nat.add_mul] at this
 omega
theorem aau {k a b:Nat} (ha:SzB (k+1) a) (hb:SzB (k+1) b):SzB k (a+b):=by
 by_cases h:0 < a∨0 < b
 · exact aas ha hb (wS a b h)
 · have:a+b=0:=by omega
   rw [this]; exact wg k
theorem aat {k a b:Nat} (ha:SzB (k+1) a) (hb:SzB (k+1) b):SzB k (a*b):=by
 refine aas ha hb ((cS _ _).2 ?_)
 rw [Nat.pow_add]
 exact Nat.mul_lt_mul'' (qz a) (qz b)
theorem uZ (a:Nat):eL a=(if a < 18446744073709551616 then (a,true) else (0,false)):=by
 split
 · rename_i h
   exact u2 ((cS 8 a).2 (by simpa using h))
 · rename_i h
   exact xA (fun h'=>h (by simpa using (cS 8 a).1 h'))
end Go.Sx
