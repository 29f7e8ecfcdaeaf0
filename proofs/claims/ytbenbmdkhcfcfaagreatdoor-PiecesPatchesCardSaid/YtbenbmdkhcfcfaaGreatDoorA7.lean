import Derived.Test.YtbenbmdkhcfcfaaGreatDoorA3
import Derived.Laws.Pointers
import Derived.Laws.Cover3
import Derived.LoopN
import Derived.Shelf.SlSortCmp.WholeK
set_option linter.unusedVariables false
set_option linter.unusedSimpArgs false
namespace Go.Sx
open Go Go.RowKit
def subc:List Nat→Code→Code
 | [],c=>c
 | 0::p,.seq a _=>subc p a
 | _::p,.seq _ b=>subc p b
 | 0::p,.cond _ a _=>subc p a
 | _::p,.cond _ _ b=>subc p b
 | _::p,.block _ c=>subc p c
 | _::p,.loop c=>subc p c
 | _::p,.scope c=>subc p c
 | _::_,c=>c
inductive Nx (S R:Type) where
 | go (s:S)
 | out (s:S)
 | ret (r:R)
def bt {S R:Type} (B:S→Nx S R):Nat→S→S ⊕ R
 | 0,s=>.inl s
 | n+1,s=>match B s with
  | .go s'=>bt B n s'
  | .out s'=>.inl s'
  | .ret r=>.inr r
theorem bI {S R:Type} {B:S→Nx S R} {n:Nat} {s s':S} {x:S ⊕ R} (hx:bt B (n+1) s=x) (h:B s=.go s'):bt B n s'=x:=by
 rw [← hx]; simp only [bt,h]
theorem cG {S R:Type} {B:S→Nx S R} {n:Nat} {s s':S} {x:S ⊕ R} (hx:bt B (n+1) s=x) (h:B s=.out s'):x=.inl s':=by
 rw [← hx]; simp only [bt,h]
theorem iH {S R:Type} {B:S→Nx S R} {n:Nat} {s:S} {r:R} {x:S ⊕ R} (hx:bt B (n+1) s=x) (h:B s=.ret r):x=.inr r:=by
 rw [← hx]; simp only [bt,h]
def fin {S R T:Type} (x:S ⊕ R) (f:S→T) (g:R→T):T:=match x with | .inl s=>f s | .inr r=>g r
theorem ir {S R T:Type} {x:S ⊕ R} {f:S→T} {g:R→T} {s:S} (h:x=.inl s):fin x f g=f s:=by rw [h]; rfl
theorem fin_r {S R T:Type} {x:S ⊕ R} {f:S→T} {g:R→T} {r:R} (h:x=.inr r):fin x f g=g r:=by rw [h]; rfl
def gt {α:Type} [Inhabited α] (l:List α) (i:Nat):α:=l.getD i default
theorem ff {α:Type} [Inhabited α] {l:List α} {i:Nat} (h:i < l.length):l[i]?=some (gt l i):=by
 simp [gt,List.getD,List.getElem?_eq_getElem h]
def All {α:Type} (p:α→Prop) (l:List α):Prop:=∀ x∈l,p x
theorem All.nil {α:Type} {p:α→Prop}:All p []:=fun _ h=>by cases h
theorem All.one {α:Type} {p:α→Prop} {x:α} (h:p x):All p [x]:=fun y hy=>by simp at hy; exact hy ▸ h
theorem All.cons {α:Type} {p:α→Prop} {x:α} {l:List α} (h:p x) (hl:All p l):All p (x::l):=fun y hy=>by
 rcases List.mem_cons.1 hy with rfl | hy
 ·exact h
 ·exact hl y hy
theorem All.app {α:Type} {p:α→Prop} {l m:List α} (h:All p l) (hm:All p m):All p (l++m):=fun x hx=>(List.mem_append.1 hx).elim (h x) (hm x)
theorem All.set {α:Type} {p:α→Prop} {l:List α} {i:Nat} {x:α} (h:All p l) (hx:p x):All p (l.set i x):=fun y hy=>(List.mem_or_eq_of_mem_set hy).elim (h y) fun e=>e ▸ hx
theorem All.take {α:Type} {p:α→Prop} {l:List α} {i:Nat} (h:All p l):All p (l.take i):=fun y hy=>h y (List.mem_of_mem_take hy)
theorem All.drop {α:Type} {p:α→Prop} {l:List α} {i:Nat} (h:All p l):All p (l.drop i):=fun y hy=>h y (List.mem_of_mem_drop hy)
theorem All.gt {α:Type} [Inhabited α] {p:α→Prop} {l:List α} {i:Nat} (h:All p l) (d:p default):p (gt l i):=by
 unfold Sx.gt
 rw [List.getD_eq_getElem?_getD]
 cases e:l[i]? with
 | none=>exact d
 | some x=>exact h x (List.mem_of_getElem? e)
theorem All.mono {α:Type} {p q:α→Prop} {l:List α} (h:All p l) (hpq:∀ x,p x→q x):All q l:=fun x hx=>hpq x (h x hx)
theorem All.if {α:Type} {p:α→Prop} {c:Bool} {l m:List α} (h:All p l) (hm:All p m):All p (bif c then l else m):=by cases c; exact hm; exact h
section
variable {P:Program} {w0:World} {N:Nat} {F:List (Nat×Value)} {L:List Asn} {a:Act} {w:World} {ops:Array Oper} {Q:Exit→Act→World→Prop} {rest:List Oper}
 {d:Nat} {op:Op} {ty:TypeId} {pos:String} {aft:Array Edge}
theorem St.cast {F':List (Nat×Value)} {L':List Asn} (h:St w0 N F L a w) (e:F=F') (e':L=L'):St w0 N F' L' a w:=e ▸ e' ▸ h
theorem r_nilS {x:Operand} {sv:Value} {n k:Nat} (hn:NN sv n) (hx:ev F x=some (sel sv k)):Rd P w0 F [] (.nilCheck x) (sel sv k):=by
 obtain ⟨g,off,c,rfl⟩:=hn
 exact dQ fun o a w ho ha=>by
  have:=ha x _ hx
  simp only [sel,ptr] at this ⊢
  simp [execOp,ho,this]
end
end Go.Sx
namespace Go.Sx
open Go Go.RowKit
section
variable {P:Program} {w0:World} {N:Nat} {F:List (Nat×Value)} {L:List Asn} {a:Act} {w:World} {ops:Array Oper} {Q:Exit→Act→World→Prop} {rest:List Oper}
 {d:Nat} {op:Op} {ty:TypeId} {pos:String} {aft:Array Edge}
theorem u4 (P:Program):∃ n,P.types.size+Made.depth=n+1:=by
 have:0 < Made.depth:=by decide
 exact ⟨P.types.size+Made.depth - 1,by omega⟩
theorem kM {T:TypeId} {info:TypeInfo} {name:String} {f:FuncId} {v:Value} {fs:Array Field} (hT:P.info? T=some info) (hm:(info.methods.find? (·.name == name)).map (fun m=>(m.path,m.func))=some (#[],some (f,false)))
 (hu:∀ w,(underlying T).run P w=.ok (.struct fs) w) (w:World):(method (P.types.size+Made.depth) T v name).run P w=.ok (f,v) w:=by
 obtain ⟨n,hn⟩:=u4 P
 rw [hn]
 cases h:info.methods.find? (·.name == name) with
 | none=>rw [h] at hm; simp at hm
 | some m =>
  rw [h] at hm
  simp only [Option.map_some,Option.some.injEq,Prod.mk.injEq] at hm
  simp [method,typeInfo,hT,h,follow,receiverAt,hu,Place.get,hm.1,hm.2]
theorem jn {T:TypeId} {info:TypeInfo} {name:String} {f:FuncId} {v:Value} {fs:Array Field} (hT:P.info? T=some info) (hm:(info.methods.find? (·.name == name)).map (fun m=>(m.path,m.func))=some (#[],some (f,false)))
 (hu:∀ w,(underlying T).run P w=.ok (.struct fs) w) (w:World):(nilAhead (P.types.size+Made.depth) T v name).run P w=.ok (some false) w:=by
 obtain ⟨n,hn⟩:=u4 P
 rw [hn]
 cases h:info.methods.find? (·.name == name) with
 | none=>rw [h] at hm; simp at hm
 | some m =>
  rw [h] at hm
  simp only [Option.map_some,Option.some.injEq,Prod.mk.injEq] at hm
  simp [nilAhead,typeInfo,hT,h,followBlind,hu,hm.1,hm.2]
def Ent (P:Program) (F:List (Nat×Value)) (op:Op) (f:FuncId) (vs:List Value):Prop:=∀ (o:Oper) (a:Act) (w:World),o.op=op→Agr F a→(execOp a.eval o).run P w=.ok (.enter f vs.toArray) w
theorem ck {f:FuncId} {args:Array Operand} {ats:Array TypeId} {vs:List Value} (hc:∀ args w,(callFunc f args).run P w=.ok (.enter f args) w) (ha:evs F args.toList=some vs):Ent P F (.call ⟨.value (.func f),args,ats⟩) f vs :=
 fun _ _ w ho hg=>ph hc ha ho hg w
theorem ug {f:FuncId} {x:Operand} {args:Array Operand} {ats:Array TypeId} {vs cap:List Value} (hc:∀ args w,(callFunc f args).run P w=.ok (.enter f args) w) (hx:ev F x=some (.func (.func f) #[] cap.toArray)) (ha:evs F args.toList=some vs) :
 Ent P F (.call ⟨.value x,args,ats⟩) f (vs++cap):=fun _ _ w ho hg=>xh hc hx ha ho hg w
theorem ent_i {f:FuncId} {x:Operand} {name:String} {T:TypeId} {u:Value} {args:Array Operand} {ats:Array TypeId} {vs:List Value} (hm:∀ w,(method (P.types.size+Made.depth) T u name).run P w=.ok (f,u) w) (hc:∀ args w,(callFunc f args).run P w=.ok (.enter f args) w)
 (hx:ev F x=some (.iface T u)) (ha:evs F args.toList=some vs):Ent P F (.call ⟨.invoke x name,args,ats⟩) f (u::vs):=by
 intro o a w ho hg
 have h1:args.map a.eval=vs.toArray:=by
  apply Array.ext'
  simp [Array.toList_map,hg.evs ha]
 simp [execOp,ho,resolve,h1,hg x _ hx,invoke,callMethod,hm,hc]
theorem fB {f:FuncId} {vs:List Value} {v:Value} {p:Prop} (he:Ent P F op f vs) (ct:∀ w,Below w0.heap.size w0 w→(∃ U,Sep w0.heap.size w L U)→Calls P f vs.toArray w (RetP w v p)):gW P w0 F L op (·=v) (fun _=>L) :=
 uH (A:=fun _=>[]) he fun w hb hs=>(ct w hb hs).mono fun _ _ h=>(show RetV w v _ _ from ⟨h.1,h.2.2⟩).ret
theorem wr {f:FuncId} {vs:List Value} {v:Value} {p:Prop} (h:St w0 N F L a w) (he:Ent P F op f vs) (ct:∀ w,Below w0.heap.size w0 w→(∃ U,Sep w0.heap.size w L U)→Calls P f vs.toArray w (RetP w v p)) (hd:Nat.blt d N=true)
 (k:∀ a w,St w0 N ((d,v)::F) L a w→wpList P ops Q rest a w):wpList P ops Q (⟨some d,op,ty,pos,aft,none⟩::rest) a w :=
 wpList_plain rfl fun _ hK=>h.gen (A:=L) (B:=[]) (by simp) (fB he ct) _ rfl fun v' _ U hv hb hs'=>by subst hv; exact hK _ _ (k _ _ (h.put hd _ hb (U:=U) (by simpa using hs')))
theorem c_new {f:FuncId} {vs:List Value} {φ:Value→Prop} {A:Value→List Asn} (h:St w0 N F L a w) (he:Ent P F op f vs) (ct:∀ w,Below w0.heap.size w0 w→(∃ U,Sep w0.heap.size w L U)→Calls P f vs.toArray w (Ret w φ A)) (hd:Nat.blt d N=true)
 (k:∀ v a w,φ v→St w0 N ((d,v)::F) (A v++L) a w→wpList P ops Q rest a w):wpList P ops Q (⟨some d,op,ty,pos,aft,none⟩::rest) a w :=
 wpList_plain rfl fun _ hK=>h.gen (A:=L) (B:=[]) (by simp) (uH he ct) _ rfl fun v _ U hv hb hs'=>hK _ _ (k v _ _ hv (h.put hd v hb (U:=U) (by simpa using hs')))
theorem jj {α:Type} [Cod α] {f:FuncId} {vs:List Value} {e:TypeId} {xs:List α} {p:Prop} (h:St w0 N F L a w) (he:Ent P F op f vs) (ct:∀ w,Below w0.heap.size w0 w→(∃ U,Sep w0.heap.size w L U)→Calls P f vs.toArray w (RetR w e xs p)) (hd:Nat.blt d N=true)
 (k:∀ v a w,p→St w0 N ((d,v)::F) (.row e v xs::L) a w→wpList P ops Q rest a w):wpList P ops Q (⟨some d,op,ty,pos,aft,none⟩::rest) a w :=
 c_new h he ct hd fun v a w hv h=>k v a w hv.2 h
def tfst:Value→Value | .tuple a=>a.getD 0 undef | _=>undef
def RetT {α:Type} [Cod α] (w:World) (e:TypeId) (xs:List α) (vs:List Value) (p:Prop):Ending→World→Prop:=Ret w (fun v=>v=.tuple (tfst v::vs).toArray∧SL (tfst v) xs.length∧p) (fun v=>[.row e (tfst v) xs])
theorem yO {α:Type} [Cod α] {f:FuncId} {us vs:List Value} {e:TypeId} {xs:List α} {p:Prop} (h:St w0 N F L a w) (he:Ent P F op f us) (ct:∀ w,Below w0.heap.size w0 w→(∃ U,Sep w0.heap.size w L U)→Calls P f us.toArray w (RetT w e xs vs p)) (hd:Nat.blt d N=true)
 (k:∀ sv a w,p→St w0 N ((d,.tuple (sv::vs).toArray)::F) (.row e sv xs::L) a w→wpList P ops Q rest a w):wpList P ops Q (⟨some d,op,ty,pos,aft,none⟩::rest) a w :=
 c_new h he ct hd fun v a w hv h=>k (tfst v) a w hv.2.2 (by have:=h; rw [hv.1] at this; exact this)
theorem RetT.pr {f:FuncId} {args:Array Value} {α:Type} [Cod α] {e:TypeId} {xs:List α} {vs:List Value} {p:Prop} {w':World} (h:Calls P f args w (RetT w' e xs vs p)):p:=by
 obtain ⟨_,_,_,⟨_,_,_,⟨_,_,hp⟩,_⟩,_⟩:=h []
 exact hp
theorem St.retT {α:Type} [Cod α] {e:TypeId} {sv:Value} {xs:List α} {vs us:List Value} {p:Prop} (h:St w0 N F L a w) (i:Nat) (hi:L[i]?=some (Asn.row e sv xs)) (hu:us=vs) (hp:p):RetT w0 e xs vs p (.returned (.tuple (sv::us).toArray)) w:=by
 subst hu
 obtain ⟨B,hq,_⟩:=fF (Asn.row e sv xs) hi
 have h2:=(h.perm hq).take 1
 exact h.retA (φ:=fun v=>v=.tuple (tfst v::us).toArray∧SL (tfst v) xs.length∧p) (A:=fun v=>[.row e (tfst v) xs]) (v:=.tuple (sv::us).toArray) ⟨by simp [tfst],by simp [tfst]; exact h.row_sl i hi,hp⟩ (by simpa [tfst] using h2)
def StepB (P:Program) (w0:World) (F:List (Nat×Value)) (L:List Asn) (op:Op) (φ:Value→Prop) (L':Value→List Asn):Prop :=
 ∀ (o:Oper) (a:Act) (w:World) (B:Asn) (K:Act→World→Prop) (Q:Exit→Act→World→Prop),o.op=op→Agr F a→Below w0.heap.size w0 w→(∃ U,Sep w0.heap.size w (L++[B]) U) →
  (∀ v w',φ v→Below w0.heap.size w0 w'→(∃ U',Sep w0.heap.size w' (L' v++[B]) U')→K (a.put o.dst v) w')→o.wp P a w K Q
def Asn.others (lo:Nat) (w:World) (U:Fp):Asn :=
 ⟨fun w' f=>(∀ k,f k↔lo≤k∧k < w.heap.size∧¬ U k)∧∀ k,f k→w'.heap[k]?=w.heap[k]?,fun h ⟨h1,h2⟩=>⟨h1,fun k hk=>(h k hk).trans (h2 k hk)⟩⟩
theorem StepB.step {φ:Value→Prop} {L':Value→List Asn} (h:StepB P w0 F L op φ L'):gW P w0 F L op φ L':=by
 intro o a w U K Q ho ha hb hs k
 have hB:Sep w0.heap.size w [Asn.others w0.heap.size w U] (fun k=>w0.heap.size≤k∧k < w.heap.size∧¬ U k) :=
  ⟨fun k=>w0.heap.size≤k∧k < w.heap.size∧¬ U k,fun _=>False,fun k=>by simp,fun _ _=>id,fun k hk=>⟨hk.1,hk.2.1⟩,⟨fun _=>Iff.rfl,fun _ _=>rfl⟩,fun _=>id⟩
 refine h o a w _ K Q ho ha hb ⟨_,hs.append hB fun k hk hn=>hn.2.2 hk⟩ fun v w' hv hb' ⟨U',hU'⟩=>?_
 obtain ⟨V,W,hV,hW,hVW,_⟩:=hU'.split
 obtain ⟨f,X,hWf,_,hfr,⟨hf,hfe⟩,hX⟩:=hW
 have hWk:∀ k,w0.heap.size≤k→k < w.heap.size→¬ U k→W k:=fun k h1 h2 h3=>(hWf k).2 (.inl ((hf k).2 ⟨h1,h2,h3⟩))
 refine k v w' V hv ⟨hb'.os.trans hb.os.symm,hb'.tape.trans hb.tape.symm,hb'.output.trans hb.output.symm,fun n hn hU=>?_,fun k hk hu=>?_,fun k hk=>?_,fun _=>hb'.drawn⟩ hV
 ·rcases Nat.lt_or_ge w0.heap.size n with hlt | hge
  ·have h1:f (n - 1):=(hf _).2 ⟨by omega,by omega,fun hu=>by have:=hU _ hu; omega⟩
   have:=(hfr _ h1).2
   omega
  ·exact Nat.le_trans hge hb'.size
 ·rcases Nat.lt_or_ge k w0.heap.size with hlt | hge
  ·rw [hb'.block k hlt,hb.block k hlt]
  ·exact hfe k ((hf k).2 ⟨hge,hk,hu⟩)
 ·rcases Nat.lt_or_ge k w.heap.size with hlt | hge
  ·refine .inl (Classical.byContradiction fun hu=>hVW k hk (hWk k (hV.range k hk).1 hlt hu))
  ·exact .inr hge
def RetY (w0:World) (φ:Value→Prop) (A:Value→List Asn):Ending→World→Prop:=fun e w'=>∃ v,e=.returned v∧φ v∧Below w0.heap.size w0 w'∧∃ U,Sep w0.heap.size w' (A v) U
theorem ji {f:FuncId} {vs:List Value} {φ:Value→Prop} {A:Value→List Asn} (he:Ent P F op f vs) (ct:∀ w B,Below w0.heap.size w0 w→(∃ U,Sep w0.heap.size w (L++[B]) U)→Calls P f vs.toArray w (RetY w0 φ (fun v=>A v++[B]))):gW P w0 F L op φ A :=
 StepB.step fun o a w B K Q ho ha hb hs k=>by
  unfold Oper.wp
  rw [he o a w ho ha]
  refine (ct w B hb hs).mono ?_
  rintro e w' ⟨v,rfl,hv,hb',hs'⟩
  exact k v w' hv hb' hs'
theorem St.retY {φ:Value→Prop} {A:Value→List Asn} (h:St w0 N F L a w) {v:Value} (hφ:φ v) (e:L=A v):RetY w0 φ A (.returned v) w:=⟨v,rfl,hφ,h.bel,by rw [← e]; exact h.sep⟩
theorem RetY.pr {f:FuncId} {args:Array Value} {φ:Value→Prop} {A:Value→List Asn} {p:Prop} (hp:∀ v,φ v→p) {w':World} (h:Calls P f args w (RetY w' φ A)):p:=by
 obtain ⟨_,_,_,⟨_,_,hv,_⟩,_⟩:=h []
 exact hp _ hv
theorem on1 (h:St w0 N F L a w) (i:Nat) {r:Asn} (hi:L[i]?=some r) {φ:Value→Prop} {A':Value→List Asn} (hs:gW P w0 F [r] op φ A') (hd:Nat.blt d N=true)
 (k:∀ v a w,φ v→St w0 N ((d,v)::F) (A' v++L.eraseIdx i) a w→wpList P ops Q rest a w):wpList P ops Q (⟨some d,op,ty,pos,aft,none⟩::rest) a w:=by
 have hlt:i < L.length:=(List.getElem?_eq_some_iff.1 hi).1
 have hp:L.Perm ([r]++L.eraseIdx i):=by
  have:=jJ hlt
  rw [(List.getElem?_eq_some_iff.1 hi).2] at this
  exact this
 exact wpList_plain rfl fun _ hK=>h.gen (A:=[r]) (B:=L.eraseIdx i) hp hs _ rfl fun v _ U hv hb hs'=>hK _ _ (k v _ _ hv (h.put hd v hb (U:=U) hs'))
theorem on2 (h:St w0 N F L a w) (i j:Nat) {r s:Asn} (hi:L[i]?=some r) (hj:(L.eraseIdx i)[j]?=some s) {φ:Value→Prop} {A':Value→List Asn} (hs:gW P w0 F [r,s] op φ A') (hd:Nat.blt d N=true)
 (k:∀ v a w,φ v→St w0 N ((d,v)::F) (A' v++(L.eraseIdx i).eraseIdx j) a w→wpList P ops Q rest a w):wpList P ops Q (⟨some d,op,ty,pos,aft,none⟩::rest) a w:=by
 have hlt:i < L.length:=(List.getElem?_eq_some_iff.1 hi).1
 have hlt2:j < (L.eraseIdx i).length:=(List.getElem?_eq_some_iff.1 hj).1
 have hp:L.Perm ([r,s]++(L.eraseIdx i).eraseIdx j):=by
  have h1:=jJ hlt
  rw [(List.getElem?_eq_some_iff.1 hi).2] at h1
  have h2:=jJ hlt2
  rw [(List.getElem?_eq_some_iff.1 hj).2] at h2
  exact h1.trans (h2.cons _)
 exact wpList_plain rfl fun _ hK=>h.gen (A:=[r,s]) (B:=(L.eraseIdx i).eraseIdx j) hp hs _ rfl fun v _ U hv hb hs'=>hK _ _ (k v _ _ hv (h.put hd v hb (U:=U) hs'))
theorem rf {x:Operand} {t tt:TypeId} {p:Option Addr} (hu:P.underlying t=some (.pointer (P.pointee t))) (hx:ev F x=some (.pointer p)):Rd P w0 F [] (.binOp .neq t x (.const (.pointer none)) tt) (.bool p.isSome) :=
 dQ fun o a w ho ha=>by
  have h2:a.eval (.const (.pointer none))=.pointer none:=rfl
  cases p <;> simp [execOp,ho,ha x _ hx,h2,eqGuard_at_pointer,run_neq_pointer_nil _ t _ hu]
theorem r_neqPS {x:Operand} {t tt:TypeId} {sv:Value} {n k:Nat} (hu:P.underlying t=some (.pointer (P.pointee t))) (hn:NN sv n) (hx:ev F x=some (sel sv k)):Rd P w0 F [] (.binOp .neq t x (.const (.pointer none)) tt) (.bool true):=by
 obtain ⟨g,off,c,rfl⟩:=hn
 exact rf (p:=some ⟨g,off+k,none⟩) hu hx
def slNil:Value→Bool | .slice none _ _=>true | _=>false
theorem r_eqlSN {x:Operand} {t tt e:TypeId} {sv:Value} {n:Nat} (hu:P.underlying t=some (.slice e)) (hs:SL sv n) (hx:ev F x=some sv):Rd P w0 F [] (.binOp .eql t x (.const (.slice none 0 0)) tt) (.bool (slNil sv)):=by
 obtain ⟨b,c,rfl⟩:=hs
 exact dQ fun o a w ho ha=>by
  have h2:a.eval (.const (.slice none 0 0))=.slice none 0 0:=rfl
  cases b <;> simp [execOp,ho,ha x _ hx,h2,eqGuard_at_slice,binOp,Op.equal,Op.maxDepth,run_equalIn_slice_nil _ 9999 t e _ _ _ hu,slNil]
theorem View.nil {α:Type} [Cod α] {sv:Value} {xs:List α} (h:View w sv xs) (hn:slNil sv=true):xs=[]∧sv=.slice none 0 0:=by
 obtain ⟨_,⟨rfl,rfl⟩ | ⟨g,off,cap,cur,e,fr,rfl,_⟩⟩:=h
 ·exact ⟨rfl,rfl⟩
 ·simp [slNil] at hn
theorem pW {sz:Nat}:∀ (vs:List Value) (us:List (List Value)) (j:Nat) (pre tail:List Value),vs.map (fun v=>v.cells.toList)=us→(∀ u∈us,u.length=sz)→pre.length=j*sz→tail.length=us.length*sz →
 qy (fun i=>some (i*sz,sz)) (pre++tail) ((vs.zipIdx j).map fun p=>(p.2,p.1))=some (pre++us.flatten)
 | [],us,j,pre,tail,hv,hu,hp,ht=>by
  simp only [List.map_nil] at hv
  subst hv
  simp at ht
  subst ht
  simp [qy]
 | v::vs,us,j,pre,tail,hv,hu,hp,ht=>by
  subst hv
  simp only [List.map_cons,List.zipIdx_cons,qy]
  have h1:v.cells.toList.length=sz:=hu _ (by simp)
  simp only [List.map_cons,List.length_cons,List.length_map] at ht
  have hb:(Nat.beq v.cells.toList.length sz && Nat.ble (j*sz+sz) (pre++tail).length)=true:=by
   rw [h1]
   simp only [List.length_append,hp,ht,Nat.add_mul,Nat.one_mul,Bool.and_eq_true]
   exact ⟨by simp,Nat.ble_eq_true_of_le og⟩
  rw [hb]
  simp only [cond_true]
  have hspl:spl (pre++tail) (j*sz) v.cells.toList=(pre++v.cells.toList)++tail.drop sz:=by
   simp only [spl]
   rw [← hp,List.take_left,h1,List.drop_append,List.drop_of_length_le og]
   simp
  rw [hspl,pW vs _ (j+1) (pre++v.cells.toList) (tail.drop sz) rfl (fun u h=>hu u (by simp [h])) (by simp only [List.length_append,hp,h1,Nat.add_mul,Nat.one_mul])
   (by simp only [List.length_drop,ht,List.length_map,Nat.add_mul,Nat.one_mul]; omega)]
  simp
theorem u7 {α:Type} [Cod α] (us:List α):flat us=(us.map Cod.enc).flatten:=by simp [flat,List.flatMap]
theorem cA {α:Type} [Cod α] {t e:TypeId} {bytes n:Nat} {zero:List Value} {xs:List Operand} {vs:List Value} (us:List α) (hT:SlT P t e (Cod.n α) bytes zero) (hx:evs F xs=some vs) (hv:vs.map (fun v=>v.cells.toList)=us.map Cod.enc) (hn:n=us.length) (hn2:n≤4096) :
 gW P w0 F [] (.buildSlice t n ((xs.zipIdx).map fun p=>(p.2,p.1)).toArray) (fun s=>NN s us.length) (fun s=>[Asn.row e s us]):=by
 intro o a w U K Q ho ha hb hs k
 obtain ⟨ht,i,z,hi,hz,hzc,hsz,hby,hzl,hn4,_⟩:=hT
 unfold Oper.wp
 have hpos:0 < Cod.n α:=Cod.pos
 have hlen:us.length=vs.length:=by
  have:=congrArg List.length hv
  simpa using this.symm
 have h2:(((xs.zipIdx).map fun p=>(p.2,p.1)).map fun p=>(p.1,a.eval p.2))=(vs.zipIdx).map fun p=>(p.2,p.1):=by
  rw [← ha.evs hx,List.zipIdx_map]
  simp [Function.comp_def]
 have hf:Instr.fill (fun i=>some (i*Cod.n α,Cod.n α)) ((Array.range (n*Cod.n α)).map fun j=>zero.toArray[j % zero.toArray.size]!) ((vs.zipIdx).map fun p=>(p.2,p.1))=some (flat us).toArray:=by
  have:=pW (sz:=Cod.n α) vs _ 0 [] ((Array.range (n*Cod.n α)).map fun j=>zero.toArray[j % zero.toArray.size]!).toList hv (fun u hu=>by
   obtain ⟨x,_,rfl⟩:=List.mem_map.1 hu
   exact Cod.len x) (by simp) (by simp [hn])
  rw [List.nil_append,List.nil_append,← u7] at this
  have:=oC _ _ _ _ this
  rw [Array.toArray_toList] at this
  exact this
 have n1:¬ (2 ^ 24 < n*Cod.n α):=by
  have:n*Cod.n α≤4096*4096:=Nat.mul_le_mul hn2 hn4
  omega
 have hz':z.cells=zero.toArray:=by rw [← hzc]
 have hr:(execOp a.eval o).run P w=.ok (.value (.slice (some ⟨w.heap.size,0,none⟩) n n)) (w.alloc (.cells (flat us).toArray e)):=by
  by_cases h0:n*Cod.n α=0
  ·have hn0:n=0:=by
    rcases Nat.mul_eq_zero.1 h0 with h | h
    ·exact h
    ·omega
   have hus:us=[]:=List.length_eq_zero_iff.1 og
   subst hus
   have hvs:vs=[]:=List.length_eq_zero_iff.1 (by simpa using hlen.symm)
   subst hvs hn0
   have hz0:∀ f:Nat→Value,(Array.range (0*Cod.n α)).map f=#[]:=fun f=>Array.size_eq_zero_iff.1 (by simp)
   have h00:0*Cod.n α=0:=Nat.zero_mul _
   have n2:¬ (2 ^ 24 < 0):=by decide
   simp only [execOp,ho,Instr.buildSlice,Sem.run_bind,run_underlying ht,Result.andThen_ok,sizeOf,typeInfo,run_program,hi,Sem.run_pure,hsz,gt_iff_lt,hz0,h00,n2,if_false,if_true,List.map_toArray,h2,List.zipIdx_nil,List.map_nil,Instr.fill,newRow,run_newObj]
   rw [show (Array.range 0).map (fun x=>(#[]:Array Value)[x % (#[]:Array Value).size]!)=#[] from Array.size_eq_zero_iff.1 (by simp)]
   rfl
  ·simp only [execOp,ho,Instr.buildSlice,Sem.run_bind,run_underlying ht,Result.andThen_ok,sizeOf,typeInfo,run_program,hi,Sem.run_pure,hsz,gt_iff_lt,n1,h0,if_false,zeroValue,hz,hz',List.map_toArray,h2,hf,newRow,run_newObj]
   rfl
 rw [hr]
 refine k _ _ (fun k=>k=w.heap.size) ⟨_,_,_,by rw [hn]⟩ ((jM w _).weak fun _ h=>h.elim) ⟨fun k=>k=w.heap.size,fun _=>False,fun k=>by simp,fun _ _=>id,fun k hk=>by simp only [hk,World.size_alloc]; have:=hb.size; omega,?_,fun _=>id⟩
 refine ⟨⟨by rw [bW],.inr ⟨w.heap.size,n,(flat us).toArray,by rw [hn],Nat.zero_le _,?_,by omega,by simp [maxLen]; omega,by simp [bW,hn],?_⟩⟩,fun k=>?_⟩
 ·show (w.heap.push _)[w.heap.size]?=_; simp
 ·simp [← bW]
 ·simp [Value.ownBlock,eq_comm]
theorem fe {α:Type} [Cod α] {t e:TypeId} {bytes:Nat} {zero:List Value} (hT:SlT P t e (Cod.n α) bytes zero) {x y:Operand} {sv tv:Value} {xs ys:List α} {R:List Asn} (hw:∀ w,(∃ U,Sep w0.heap.size w R U)→View w tv ys) (hx:ev F x=some sv) (hy:ev F y=some tv) (hlen:xs.length+ys.length≤34359738368) :
 gW P w0 F (Asn.row e sv xs::R) (.call ⟨.builtin .append,#[x,y],#[t,t]⟩) (fun v=>ys≠[]→NN v (xs++ys).length) (fun v=>Asn.row e v (xs++ys)::R):=by
 intro o a w U K Q ho ha hb hs k
 obtain ⟨f,V,hU,hd,hlt,⟨hown,hf1⟩,hV⟩:=hs
 obtain ⟨v',w',hr,h1,hg,hbk,h3⟩:=xi (P:=P) (tt:=o.type) hT hown (hw w ⟨V,hV⟩) hlen
 have hrun:(execOp a.eval o).run P w=.ok (.value v') w':=by
  simp [execOp,ho,resolve,invoke,builtin,ha x _ hx,ha y _ hy,hr]
 unfold Oper.wp
 rw [hrun]
 have hVn:∀ k,V k→¬ (v'.ownBlock=some k):=fun k hk he=>by
  rcases hbk k he with h | h
  ·exact hd k ((hf1 k).2 h) hk
  ·have:=(hV.range k hk).2; omega
 refine k v' w' (fun k=>v'.ownBlock=some k∨V k) h3 (pI hg (fun k hk=>(hU k).2 (.inl ((hf1 k).2 hk))) (fo _ hr) fun k hk=>?_) ?_
 ·rcases hk with hk | hk
  ·exact (hbk k hk).imp (fun h=>(hU k).2 (.inl ((hf1 k).2 h))) fun h=>by omega
  ·exact .inl ((hU k).2 (.inr hk))
 ·refine (tP h1 fun k hk=>?_).append (hV.moved fun k hk=>hg.block k (hV.range k hk).2 fun e=>hd k ((hf1 k).2 e.symm) hk) fun k hk hv=>hVn k hv hk
  rcases hbk k hk with h | rfl
  ·exact (hlt k ((hf1 k).2 h)).1
  ·exact hb.size
end
end Go.Sx
namespace Go.Sx
open Go Go.RowKit
theorem View.nilv {α:Type} [Cod α] {w:World}:View w (.slice none 0 0) ([]:List α):=⟨⟨Nat.zero_le _,Nat.zero_le _⟩,.inl ⟨rfl,rfl⟩⟩
def dropv (sv:Value) (n size:Nat):Value:=match sv with | .slice a l c=>.slice (if c=n then a else a.map (·.add (n*size))) (l - n) (c - n) | _=>undef
theorem tc {α:Type} [Cod α]:∀ (n:Nat) (xs:List α),flat (xs.drop n)=(flat xs).drop (n*Cod.n α)
 | 0,xs=>by simp
 | n+1,[]=>by simp [flat]
 | n+1,x::xs=>by
  rw [List.drop_succ_cons,tc n xs]
  have:flat (x::xs)=Cod.enc x++flat xs:=by simp [flat]
  rw [this,show (n+1)*Cod.n α=(Cod.enc x).length+n*Cod.n α by rw [Cod.len,Nat.add_mul,Nat.one_mul,Nat.add_comm],List.drop_length_add_append]
theorem View.dropv {α:Type} [Cod α] {w:World} {sv:Value} {xs:List α} {n:Nat} (h:View w sv xs) (hn:n≤xs.length):View w (dropv sv n (Cod.n α)) (xs.drop n):=by
 obtain ⟨⟨h1,h2⟩,⟨rfl,rfl⟩ | ⟨g,off,cap,cur,e,fr,rfl,hh,hx⟩⟩:=h
 ·have:n=0:=by simpa using hn
  subst this
  exact ⟨⟨Nat.zero_le _,Nat.zero_le _⟩,.inl ⟨by simp [Sx.dropv],by simp⟩⟩
 ·simp only [tp] at h2
  refine ⟨⟨by simp; omega,by simp [Sx.dropv,tp]; omega⟩,.inr ?_⟩
  by_cases hc:cap=n
  ·refine ⟨g,off,cap - n,cur,e,fr,by simp [Sx.dropv,hc],hh,fun j hj=>?_⟩
   have:xs.drop n=[]:=by
    rw [List.drop_eq_nil_iff]; omega
   rw [this] at hj
   simp [flat] at hj
  ·refine ⟨g,off+n*Cod.n α,cap - n,cur,e,fr,by simp [Sx.dropv,hc,Addr.add],hh,fun j hj=>?_⟩
   rw [tc] at hj ⊢
   rw [List.length_drop] at hj
   have:=hx (n*Cod.n α+j) og
   rw [List.getElem?_drop,← this]
   congr 1
   omega
section
variable {P:Program} {w0:World} {N M:Nat} {F:List (Nat×Value)} {L:List Asn} {a:Act} {w:World} {ops:Array Oper} {Q:Exit→Act→World→Prop} {rest:List Oper}
 {d:Nat} {op:Op} {ty:TypeId} {pos:String} {aft:Array Edge}
theorem c_ifT {c:Operand} {x y:Code} {b:Bool} (h:St w0 N F L a w) (hc:ev F c=some (.bool b)) (k:x.wp P Q a w) (hb:b=true:=by rfl):(Code.cond c x y).wp P Q a w :=
 kA h hc (fun _=>k) (fun e=>by rw [hb] at e; cases e)
theorem tr {c:Operand} {x y:Code} {b:Bool} (h:St w0 N F L a w) (hc:ev F c=some (.bool b)) (k:y.wp P Q a w) (hb:b=false:=by rfl):(Code.cond c x y).wp P Q a w :=
 kA h hc (fun e=>by rw [hb] at e; cases e) (fun _=>k)
theorem tK (x:Int) (n:Int) (hn:0 < n):-n < Int.tmod x n∧Int.tmod x n < n:=⟨by have:=Int.lt_tmod_of_pos x hn; omega,Int.tmod_lt_of_pos x hn⟩
theorem r_from {α:Type} [Cod α] {t e':TypeId} {x y:Operand} {sv:Value} {xs:List α} {k:IntKind} {n:Nat} {w1:World} (hu:∀ w,(underlying t).run P w=.ok (.slice e') w) (hz:∀ w,(sizeOf e').run P w=.ok (Cod.n α) w) (hx:ev F x=some sv) (hy:ev F y=some (.int k (n:Int))) (hv:View w1 sv xs) (hn:n≤xs.length) :
 Rd P w0 F [] (.slice t x (some y) none none) (dropv sv n (Cod.n α)):=by
 refine dQ fun o a w ho ha=>?_
 have hc:=hv.cap
 obtain ⟨_,⟨rfl,rfl⟩ | ⟨g,off,cap,cur,e,fr,rfl,_⟩⟩:=hv
 ·have:n=0:=by simpa using hn
  subst this
  simp [execOp,ho,Instr.sliceAt,Instr.slice,Instr.sliceBounds,Instr.sliceBound,asIntOf,ha x _ hx,ha y _ hy,hu w,hz w,dropv]
 ·simp only [tp] at hc
  have h1:(n:Int)≤(xs.length:Int):=by omega
  have h2:(xs.length:Int)≤(cap:Int):=by omega
  simp [execOp,ho,Instr.sliceAt,Instr.slice,Instr.sliceBounds,Instr.sliceBound,asIntOf,ha x _ hx,ha y _ hy,hu w,hz w,h1,h2,dropv]
  intro hlt; omega
theorem inl {f:FuncId} {fn:Func} {c:Code} {vs:List Value} (h:St w0 N F L a w) (he:Ent P F op f vs) (hf:P.funcs[f]?=some fn) (hb:fn.body=some c) (hM:vs.length+(fn.ntmps - vs.length)=M) (hd:Nat.blt d N=true)
 (hcode:∀ R:Ending→World→Prop,(∀ (v:Value) (L':List Asn) (w':World),Below w0.heap.size w0 w'→(∃ U,Sep w0.heap.size w' L' U)→(∀ a',St w0 N ((d,v)::F) L' a' w'→wpList P ops Q rest a' w')→R (.returned v) w') →
   ∀ ai,St w0 M (zipF 0 vs) L ai w→c.wp P (bodyPost P fn R) ai w):wpList P ops Q (⟨some d,op,ty,pos,aft,none⟩::rest) a w :=
 wpList_plain rfl fun K hK=>by
  unfold Oper.wp
  rw [he _ a w rfl h.agr]
  refine calls_of_wp hf hb ?_ 
  refine hcode _ ?_ _ (by
   have:=St.init w vs fn.ntmps hM (F:=zipF 0 vs) fun _ _ hv=>(nN hv).2
   exact ⟨this.size,this.defers,this.regs,h.bel,h.sep⟩)
  intro v L' w' hb' hs' hk
  obtain ⟨U,hU⟩:=hs'
  exact hK _ _ (hk _ (h.put hd v hb' (U:=U) hU))
end
end Go.Sx
namespace Go.Sx
open Go Go.RowKit
structure Stp where
 length:Nat
 piece:Nat
 point:Nat
 root:Bool
 c0:Int
 c1:Int
 c2:Int
 deriving DecidableEq
structure At (α:Type) where
 frm:GR
 til:GR
 gap:Bool
 has:Bool
 f:α
 deriving DecidableEq
def cS (x:Stp):List Value:=[.int .u8 (x.length:Int),.int .u8 (x.piece:Int),.int .u8 (x.point:Int),.bool x.root,.int .i8 x.c0,.int .i8 x.c1,.int .i8 x.c2]
def cAI (x:At Int):List Value:=cR x.frm++(cR x.til++[.bool x.gap,.bool x.has,.int .i64 x.f])
def cAD (x:At Qd):List Value:=cR x.frm++(cR x.til++(.bool x.gap::.bool x.has::cD x.f))
def vS (x:Stp):Value:=.agg (cS x).toArray
def vAD (x:At Qd):Value:=.agg (cAD x).toArray
theorem uQ {v:Value} {B:List Value} (hv:v.oneCell'=true) (hB:∀ c∈B,c.oneCell'=true):∀ c∈v::B,c.oneCell'=true:=fun c h=>by
 rcases List.mem_cons.1 h with rfl | h
 ·exact hv
 ·exact hB c h
instance zi8:Cod Stp:=⟨cS,7,fun _=>rfl,fun x=>by simp [cS,Value.oneCell'],by decide⟩
instance zi9:Cod (At Int):=⟨cAI,21,fun _=>rfl,fun x=>g8 (oneR _) (g8 (oneR _) (by simp [Value.oneCell'])),by decide⟩
instance zi10:Cod (At Qd):=⟨cAD,32,fun _=>rfl,fun x=>g8 (oneR _) (g8 (oneR _) (uQ rfl (uQ rfl (oneD _)))),by decide⟩
instance zi11:Inhabited GI:=⟨⟨false,0⟩⟩
instance zi12:Inhabited GQ:=⟨⟨default,default⟩⟩
instance zi13:Inhabited GR:=⟨⟨default,default,false⟩⟩
instance zi14:Inhabited Iv:=⟨⟨default,default,false,false⟩⟩
instance zi15:Inhabited Qd:=⟨⟨default,default,default⟩⟩
instance zi16 {α:Type} [Inhabited α]:Inhabited (U α):=⟨⟨default,default⟩⟩
instance zi17 {α:Type} [Inhabited α]:Inhabited (At α):=⟨⟨default,default,false,false,default⟩⟩
instance zi18:Inhabited Stp:=⟨⟨0,0,0,false,0,0,0⟩⟩
def gk (k:Nat) (x:U Qd):Prop:=SzV k x.iv∧SzD k x.f
def SzAD (k:Nat) (x:At Qd):Prop:=SzR k x.frm∧SzR k x.til∧SzD k x.f
theorem rZ {j k:Nat} {x:U Qd} (h:gk k x) (hj:j≤k):gk j x:=⟨iK h.1 hj,dh h.2 hj⟩
theorem SzI_d (k:Nat):SzI k default:=vt k
theorem wx (k:Nat):SzQ k default:=⟨SzI_d k,SzI_d k⟩
theorem m8 (k:Nat):SzR k default:=⟨wx k,wx k⟩
theorem SzV_d (k:Nat):SzV k default:=⟨m8 k,m8 k⟩
theorem SzD_d (k:Nat):SzD k default:=⟨wx k,wx k,wx k⟩
theorem bL (k:Nat):gk k default:=⟨SzV_d k,SzD_d k⟩
theorem fR (k:Nat):SzAD k default:=⟨m8 k,m8 k,SzD_d k⟩
def Alt {α:Type} [Inhabited α] (l:List (At α)):Prop:=∀ j,j < l.length→(gt l j).gap=decide (j % 2=1)
theorem ie {α:Type} [Inhabited α] {l m:List α} {j:Nat} (h:j < l.length):gt (l++m) j=gt l j:=by
 simp [gt,List.getD,List.getElem?_append_left h]
theorem rJ {α:Type} [Inhabited α] (l:List α) (x:α):gt (l++[x]) l.length=x:=by simp [gt,List.getD]
theorem s0 {α:Type} [Inhabited α] {l:List α} {i:Nat} {x:α} (h:i < l.length):gt (l.set i x) i=x:=by simp [gt,List.getD,h]
theorem x6 {α:Type} [Inhabited α] {l:List α} {i j:Nat} {x:α} (h:i≠j):gt (l.set i x) j=gt l j:=by simp [gt,List.getD,h]
theorem Alt.nil {α:Type} [Inhabited α]:Alt ([]:List (At α)):=fun _ h=>by simp at h
theorem Alt.snoc {α:Type} [Inhabited α] {l:List (At α)} {x:At α} (h:Alt l) (hx:x.gap=decide (l.length % 2=1)):Alt (l++[x]):=fun j hj=>by
 simp at hj
 rcases Nat.lt_or_ge j l.length with h1 | h1
 ·rw [ie h1]; exact h j h1
 ·have:j=l.length:=by omega
  subst this
  rw [rJ]; exact hx
theorem Alt.set {α:Type} [Inhabited α] {l:List (At α)} {x:At α} {i:Nat} (h:Alt l) (hx:x.gap=(gt l i).gap):Alt (l.set i x):=fun j hj=>by
 rw [List.length_set] at hj
 by_cases e:i=j
 ·subst e
  rw [s0 hj,hx]; exact h i hj
 ·rw [x6 e]; exact h j hj
theorem mR {α:Type} {l:List α} {i:Nat} {x:α} (h:i < l.length):(l.set i x)[i]?=some x:=by simp [h]
theorem View.len {α:Type} [Cod α] {w:World} {sv:Value} {xs:List α} (h:View w sv xs):xs.length≤9223372036854775807:=by
 have:=h.1.1; simp only [maxLen] at this; omega
theorem St.len {α:Type} [Cod α] {w0 w:World} {N:Nat} {F:List (Nat×Value)} {L:List Asn} {a:Act} {e:TypeId} {sv:Value} {xs:List α} (h:St w0 N F L a w) (i:Nat) (hi:L[i]?=some (Asn.row e sv xs)):xs.length≤9223372036854775807:=by
 have:=h.row_len i hi; simp only [maxLen] at this; omega
theorem Alt.if {α:Type} [Inhabited α] {c:Bool} {l m:List (At α)} (h:c=true→Alt l) (hm:c=false→Alt m):Alt (bif c then l else m):=by cases c; exact hm rfl; exact h rfl
theorem np {α:Type} [Inhabited α] {l:List (At α)} {i n n':Nat} (h:∀ j,j < i→(gt l j).gap=true→(gt l j).has=true→0 < n) (hn:0 < n→0 < n') (hi:(gt l i).gap=true→(gt l i).has=true→0 < n') :
 ∀ j,j < i+1→(gt l j).gap=true→(gt l j).has=true→0 < n':=fun j hj hg hh=>by
 rcases Nat.lt_or_ge j i with h1 | h1
 ·exact hn (h j h1 hg hh)
 ·obtain rfl:j=i:=by omega
  exact hi hg hh
theorem Alt.odd {α:Type} [Inhabited α] {l:List (At α)} (h:Alt l) {i:Nat} (hi:i < l.length) (hg:(gt l i).gap=true):i % 2=1:=by
 have:=h i hi; rw [hg] at this; exact of_decide_eq_true this.symm
theorem Alt.even {α:Type} [Inhabited α] {l:List (At α)} (h:Alt l) {i:Nat} (hi:i < l.length) (hg:(gt l i).gap=false):i % 2=0:=by
 have:=h i hi; rw [hg] at this; have:=of_decide_eq_false this.symm; omega
theorem Alt.gap {α:Type} [Inhabited α] {l:List (At α)} (h:Alt l) {i:Nat} (hi:i < l.length) (ho:i % 2=1):(gt l i).gap=true:=by rw [h i hi]; exact decide_eq_true ho
theorem nC {sv:Value} {n:Nat} (h:SL sv n):sv.cells.toList=[sv]:=by obtain ⟨a,c,rfl⟩:=h; rfl
theorem si {sv:Value} {n:Nat} (h:SL sv n):[sv].all Value.oneCell'=true:=by obtain ⟨a,c,rfl⟩:=h; rfl
end Go.Sx
namespace Go.Sx
open Go Go.RowKit
section
variable {P:Program} {w0:World} {N:Nat} {F:List (Nat×Value)} {L:List Asn} {a:Act} {w:World} {ops:Array Oper} {Q:Exit→Act→World→Prop} {rest:List Oper}
 {d:Nat} {op:Op} {ty:TypeId} {pos:String} {aft:Array Edge}
theorem r_buildA {α:Type} [Cod α] {t e:TypeId} {n:Nat} {z:Value} {xs:List Operand} {vs:List Value} (us:List α) (hz:∀ w,(zeroValue t).run P w=.ok z w) (hu:∀ w,(underlying t).run P w=.ok (.array n e) w) (hs:∀ w,(sizeOf e).run P w=.ok (Cod.n α) w)
 (hzl:z.cells.toList.length=us.length*Cod.n α) (hx:evs F xs=some vs) (hv:vs.map (fun v=>v.cells.toList)=us.map Cod.enc):Rd P w0 F [] (.build t ((xs.zipIdx).map fun p=>(p.2,p.1)).toArray) (.agg (flat us).toArray):=by
 refine dQ fun o a w ho ha=>?_
 have h2:(((xs.zipIdx).map fun p=>(p.2,p.1)).map fun p=>(p.1,a.eval p.2))=(vs.zipIdx).map fun p=>(p.2,p.1):=by
  rw [← ha.evs hx,List.zipIdx_map]
  simp [Function.comp_def]
 have hf:Instr.fill (fun i=>some (i*Cod.n α,Cod.n α)) z.cells ((vs.zipIdx).map fun p=>(p.2,p.1))=some (flat us).toArray:=by
  have:=pW (sz:=Cod.n α) vs _ 0 [] z.cells.toList hv (fun u hu=>by
   obtain ⟨x,_,rfl⟩:=List.mem_map.1 hu
   exact Cod.len x) (by simp) (by simpa using hzl)
  rw [List.nil_append,List.nil_append,← u7] at this
  have:=oC _ _ _ _ this
  rw [Array.toArray_toList] at this
  exact this
 simp only [execOp,ho,Instr.build,Sem.run_bind,hz w,hu w,hs w,Result.andThen_ok,List.map_toArray,h2,hf]
 rfl
theorem yc {α:Type} [Cod α] {xs:List α} {i:Nat} {u:α} (hi:xs[i]?=some u):((flat xs).drop (i*Cod.n α)).take (Cod.n α)=Cod.enc u:=by
 have hlt:i < xs.length:=(List.getElem?_eq_some_iff.1 hi).1
 have hx:xs=xs.take i++u::xs.drop (i+1):=by
  rw [List.getElem?_eq_getElem hlt] at hi
  simp only [Option.some.injEq] at hi
  rw [← hi,List.getElem_cons_drop,List.take_append_drop]
 have hl:(flat (xs.take i)).length=i*Cod.n α:=by rw [bW,List.length_take]; congr 1; omega
 rw [show flat xs=flat (xs.take i)++(Cod.enc u++flat (xs.drop (i+1))) by conv=>lhs; rw [hx]
                                                                         simp [flat],List.drop_left' hl,List.take_left' (Cod.len u)]
theorem r_indexA {α:Type} [Cod α] {t e:TypeId} {n i:Nat} {k:IntKind} {x ix:Operand} {us:List α} {u:α} {v:Value} (hu:∀ w,(underlying t).run P w=.ok (.array n e) w) (hs:∀ w,(sizeOf e).run P w=.ok (Cod.n α) w) (ha':∀ w,(isAgg e).run P w=.ok true w)
 (hx:ev F x=some (.agg (flat us).toArray)) (hi:ev F ix=some (.int k (i:Int))) (hn:i < n) (he:us[i]?=some u) (hv:Value.agg (Cod.enc u).toArray=v):Rd P w0 F [] (.index t x ix) v :=
 dQ fun o a w ho ha=>by
  have h1:(0:Int)≤(i:Int)∧(i:Int) < (n:Int):=by omega
  have h3:=yc he
  simp [execOp,ho,Instr.index,asIntOf,ha x _ hx,ha ix _ hi,hu w,hs w,h1,part,ha' w,h3,hn,hv]
def topb (m:Nat):Nat:=((le m).reverse.headD 0).toNat
theorem uL {x ix:Operand} {t:TypeId} {m:Nat} {k:IntKind} (hu:∀ w,(underlying t).run P w=.ok .string w) (hx:ev F x=some (.string (bs m))) (hi:ev F ix=some (.int k ((0:Nat):Int))) (hm:m≠0):Rd P w0 F [] (.index t x ix) (.int .u8 ((topb m:Nat):Int)):=by
 have hl:le m≠[]:=fun e=>hm (by rw [← rl m,e]; rfl)
 have hs:0 < (bs m).size:=by
  show 0 < (le m).reverse.toArray.size
  simp only [List.size_toArray,List.length_reverse]
  exact List.length_pos_iff.2 hl
 have:=rg (P:=P) (w0:=w0) hu hx hi hs
 have e:((bs m)[0]'hs)=(le m).reverse.headD 0:=by
  have h0:∀ (l:List UInt8) (h:0 < l.length),l[0]=l.headD 0:=fun l h=>by
   cases l with
   | nil=>simp at h
   | cons a l=>rfl
  exact h0 _ _
 rw [e] at this
 exact this
end
end Go.Sx
namespace Go.Sx
open Go Go.RowKit
theorem kk {A B:World→Prop} {Q:World→Prop} (h:∀ w,Q w):∀ w,A w→B w→Q w:=fun w _ _=>h w
abbrev dv (v:Value):DOp:=⟨.det v,[]⟩
abbrev dw (v:Value) (l:List Nat):DOp:=⟨.det v,l⟩
abbrev ne:DOp:=⟨.det (gv false undef),[]⟩
abbrev y8 (n k:Nat):DOp:=⟨.nd (.one n fun v=>∃ b,v=ptr b 0),[k]⟩
abbrev ge (v:Asn):Hist:=⟨v,[]⟩
section
variable {P:Program} {w0:World} {N:Nat} {F:List (Nat×Value)} {ops:List Oper} {D:List DOp} {H:List Hist} {Q:Exit→Act→World→Prop}
variable {i:Nat} {ξ:Nat→Value} {G:(Nat→Value)→List (Nat×Value)} {op:Op} {ty:TypeId} {pos:String} {aft:Array Edge} {dst:Option Tmp} {acc:List Nat}
theorem og1 {j:Nat} {b:Bool} {v:Value} {A:List Asn} (hA:dO H acc i ξ=A) (hne:(acc.all fun e=>match H[e]? with | some h=>h.steps.all fun p=>!(Nat.beq p.1 i) | none=>true)=true) (hl:look (G ξ) (((ops[j]?).bind (·.dst)).getD 0)=some (.bool b))
 (hd:((ops[j]?).bind (·.dst)).isSome=true) (h:b=true→gW P w0 (jk (G ξ) (gF op)) A op (·=v) (fun _=>A)) :
 ObS P w0 ops H G ξ i ⟨dst,op,ty,pos,aft,some (j,true)⟩ ⟨.det (gv b v),acc⟩:=lI (c:=true) A hA hne hl hd g_t h
theorem og2 {j:Nat} {b:Bool} {v:Value} {A:List Asn} (hA:dO H acc i ξ=A) (hne:(acc.all fun e=>match H[e]? with | some h=>h.steps.all fun p=>!(Nat.beq p.1 i) | none=>true)=true) (hl:look (G ξ) (((ops[j]?).bind (·.dst)).getD 0)=some (.bool b))
 (hd:((ops[j]?).bind (·.dst)).isSome=true) (h:(!b)=true→gW P w0 (jk (G ξ) (gF op)) A op (·=v) (fun _=>A)) :
 ObS P w0 ops H G ξ i ⟨dst,op,ty,pos,aft,some (j,false)⟩ ⟨.det (gv (!b) v),acc⟩:=lI (c:=true) A hA hne hl hd g_f h
theorem og3 {j:Nat} {b c:Bool} {v:Value} {A:List Asn} (hA:dO H acc i ξ=A) (hne:(acc.all fun e=>match H[e]? with | some h=>h.steps.all fun p=>!(Nat.beq p.1 i) | none=>true)=true) (hl:look (G ξ) (((ops[j]?).bind (·.dst)).getD 0)=some (gv c (.bool b)))
 (hd:((ops[j]?).bind (·.dst)).isSome=true) (h:(c && b)=true→gW P w0 (jk (G ξ) (gF op)) A op (·=v) (fun _=>A)) :
 ObS P w0 ops H G ξ i ⟨dst,op,ty,pos,aft,some (j,true)⟩ ⟨.det (gv (c && b) v),acc⟩:=lI A hA hne hl hd g_ct h
theorem og4 {j:Nat} {b c:Bool} {v:Value} {A:List Asn} (hA:dO H acc i ξ=A) (hne:(acc.all fun e=>match H[e]? with | some h=>h.steps.all fun p=>!(Nat.beq p.1 i) | none=>true)=true) (hl:look (G ξ) (((ops[j]?).bind (·.dst)).getD 0)=some (gv c (.bool b)))
 (hd:((ops[j]?).bind (·.dst)).isSome=true) (h:(c && !b)=true→gW P w0 (jk (G ξ) (gF op)) A op (·=v) (fun _=>A)) :
 ObS P w0 ops H G ξ i ⟨dst,op,ty,pos,aft,some (j,false)⟩ ⟨.det (gv (c && !b) v),acc⟩:=lI A hA hne hl hd g_cf h
end
end Go.Sx
namespace Go.Sx
open Go Go.RowKit
section
variable {P:Program} {w0 w:World} {N:Nat} {F:List (Nat×Value)} {L:List Asn} {a:Act} {ops:Array Oper} {Q:Exit→Act→World→Prop} {d:Nat} {op:Op} {rest:List Oper} {ty:TypeId} {pos:String} {aft:Array Edge}
theorem gd1 {j dj:Nat} {b:Bool} (h:St w0 N F L a w) (hj:(ops[j]?).bind (·.dst)=some dj) (hl:look F dj=some (.bool b)) {v:Value} (hs:b=true→gW P w0 F L op (·=v) (fun _=>L)) (hd:Nat.blt d N=true)
 (k:∀ a w,St w0 N ((d,gv b v)::F) L a w→wpList P ops Q rest a w):wpList P ops Q (⟨some d,op,ty,pos,aft,some (j,true)⟩::rest) a w:=gd (c:=true) h hj hl g_t hs hd k
end
end Go.Sx
namespace Go.Sx
open Go Go.RowKit
section
variable {P:Program} {w0:World} {N:Nat} {F:List (Nat×Value)} {L:List Asn} {ops:Array Oper} {Q:Exit→Act→World→Prop} {d:Nat} {op:Op} {rest:List Oper} {ty:TypeId} {pos:String} {aft:Array Edge}
theorem g0 {v:Value} (hs:Rd P w0 F [] op v) (hd:Nat.blt d N=true) (k:∀ a w,St w0 N ((d,v)::F) L a w→wpList P ops Q rest a w):∀ a w,St w0 N F L a w→wpList P ops Q (⟨some d,op,ty,pos,aft,none⟩::rest) a w:=fun _ _ h=>rd0 h hs hd k
theorem g1 (i:Nat) {r:Asn} {v:Value} (hi:L[i]?=some r) (hs:Rd P w0 F [r] op v) (hd:Nat.blt d N=true) (k:∀ a w,St w0 N ((d,v)::F) L a w→wpList P ops Q rest a w):∀ a w,St w0 N F L a w→wpList P ops Q (⟨some d,op,ty,pos,aft,none⟩::rest) a w:=fun _ _ h=>rd1 h i hi hs hd k
theorem gl {f:FuncId} {args:Array Operand} {ats:Array TypeId} {vs:List Value} {v:Value} {p:Prop} (hc:∀ args w,(callFunc f args).run P w=.ok (.enter f args) w) (ha:evs F args.toList=some vs)
 (ct:∀ w,Calls P f vs.toArray w (RetP w v p)) (hd:Nat.blt d N=true) (k:∀ a w,St w0 N ((d,v)::F) L a w→wpList P ops Q rest a w) :
 ∀ a w,St w0 N F L a w→wpList P ops Q (⟨some d,.call ⟨.value (.func f),args,ats⟩,ty,pos,aft,none⟩::rest) a w:=fun _ _ h=>clp h hc ha ct hd k
theorem gc {f:FuncId} {vs:List Value} {v:Value} {p:Prop} (he:Ent P F op f vs) (ct:∀ w,Below w0.heap.size w0 w→(∃ U,Sep w0.heap.size w L U)→Calls P f vs.toArray w (RetP w v p)) (hd:Nat.blt d N=true)
 (k:∀ a w,St w0 N ((d,v)::F) L a w→wpList P ops Q rest a w):∀ a w,St w0 N F L a w→wpList P ops Q (⟨some d,op,ty,pos,aft,none⟩::rest) a w:=fun _ _ h=>wr h he ct hd k
theorem gs (i:Nat) {t e:TypeId} {x y:Operand} {b k n:Nat} {v:Value} {cs us:List Value} (cs':List Value) (hi:L[i]?=some (Asn.blk b cs e)) (hz:∀ w,(sizeOf t).run P w=.ok n w) (hx:ev F x=some (ptr b k)) (hy:ev F y=some v)
 (hc:v.cells.toList=us) (hn:us.length=n) (h1:us.all Value.oneCell'=true) (hf:Nat.ble (k+n) cs.length=true) (hr:spl cs k us=cs')
 (c:∀ a w,St w0 N F (L.set i (Asn.blk b cs' e)) a w→wpList P ops Q rest a w):∀ a w,St w0 N F L a w→wpList P ops Q (⟨none,.store t x y,ty,pos,aft,none⟩::rest) a w:=fun _ _ h=>st h i cs' hi hz hx hy hc hn h1 hf hr c
theorem ga {t:TypeId} {z:Value} (cs:List Value) (hz:∀ w,(zeroValue t).run P w=.ok z w) (hc:z.cells.toList=cs) (hd:Nat.blt d N=true)
 (k:∀ b a w,St w0 N ((d,ptr b 0)::F) (Asn.blk b cs t::L) a w→wpList P ops Q rest a w):∀ a w,St w0 N F L a w→wpList P ops Q (⟨some d,.alloc t,ty,pos,aft,none⟩::rest) a w:=fun _ _ h=>al h cs hz hc hd k
end
end Go.Sx
namespace Go.Sx
open Go Go.RowKit
abbrev oQ:GQ:=⟨⟨false,0⟩,⟨false,0⟩⟩
abbrev oD:Qd:=⟨oQ,oQ,oQ⟩
section
variable {P:Program} {w0:World} {N:Nat} {F:List (Nat×Value)} {L:List Asn} {ops:Array Oper} {Q:Exit→Act→World→Prop} {d:Nat} {op:Op} {rest:List Oper} {ty:TypeId} {pos:String} {aft:Array Edge}
theorem ge1 {j dj:Nat} {b:Bool} (hj:(ops[j]?).bind (·.dst)=some dj) (hl:look F dj=some (.bool b)) {v:Value} (hs:b=true→gW P w0 F L op (·=v) (fun _=>L)) (hd:Nat.blt d N=true)
 (k:∀ a w,St w0 N ((d,gv b v)::F) L a w→wpList P ops Q rest a w):∀ a w,St w0 N F L a w→wpList P ops Q (⟨some d,op,ty,pos,aft,some (j,true)⟩::rest) a w:=fun _ _ h=>gd1 h hj hl hs hd k
end
end Go.Sx
namespace Go.Sx
open Go Go.RowKit
section
variable {P:Program} {w0:World} {N:Nat} {F:List (Nat×Value)} {L:List Asn} {ops:Array Oper} {Q:Exit→Act→World→Prop}
theorem gz {a:Act} {w:World} {R:Act→World→Prop} (h:St w0 N F L a w) (k:∀ a w,St w0 N F L a w→R a w):R a w:=k a w h
theorem gn {K R:Act→World→Prop} (hK:∀ a w,R a w→K a w) (k:∀ a w,St w0 N F L a w→R a w):∀ a w,St w0 N F L a w→wpList P ops (Exit.then K Q) [] a w:=fun a w h=>fX (hK a w (k a w h))
theorem gx {R S:Act→World→Prop} (f:∀ a w,S a w→R a w) (k:∀ a w,St w0 N F L a w→S a w):∀ a w,St w0 N F L a w→R a w:=fun a w h=>f a w (k a w h)
theorem gr {id:Nat} {l:List Oper} {y:Code} (k:∀ K:Act→World→Prop,(∀ a w,y.wp P Q a w→K a w)→∀ a w,St w0 N F L a w→wpList P l.toArray (Exit.then K Q) l a w):∀ a w,St w0 N F L a w→(Code.seq (.region id l.toArray false) y).wp P Q a w:=fun a w h=>pm fun K hK=>k K hK a w h
theorem gq {x y:Code} (k:∀ K:Act→World→Prop,(∀ a w,y.wp P Q a w→K a w)→∀ a w,St w0 N F L a w→x.wp P (Exit.then K Q) a w):∀ a w,St w0 N F L a w→(Code.seq x y).wp P Q a w:=fun a w h=>qb fun K hK=>k K hK a w h
theorem gB {id:Nat} {c:Code} (k:∀ a w,St w0 N F L a w→c.wp P (Exit.inBlock id Q) a w):∀ a w,St w0 N F L a w→(Code.block id c).wp P Q a w:=fun a w h=>qc (k a w h)
theorem gR {id:Nat} {l:List Oper} (k:∀ a w,St w0 N F L a w→wpList P l.toArray Q l a w):∀ a w,St w0 N F L a w→(Code.region id l.toArray false).wp P Q a w:=fun a w h=>c_r (k a w h)
theorem gS (k:∀ a w,St w0 N F L a w→Q .normal a w):∀ a w,St w0 N F L a w→Code.skip.wp P Q a w:=fun a w h=>mE (k a w h)
theorem gE {id:Nat} (k:∀ a w,St w0 N F L a w→Q (.exit id) a w):∀ a w,St w0 N F L a w→(Code.exit id).wp P Q a w:=fun a w h=>kd (k a w h)
theorem gT (k:∀ a w,St w0 N F L a w→Q .ret a w):∀ a w,St w0 N F L a w→Code.ret.wp P Q a w:=fun a w h=>c_ret (k a w h)
theorem gN {id:Nat} (k:∀ a w,St w0 N F L a w→Q .normal a w):∀ a w,St w0 N F L a w→Exit.inBlock id Q .normal a w:=k
section
variable {H:List Hist} {i:Nat} {G:(Nat→Value)→List (Nat×Value)} {op:Op} {ty:TypeId} {pos:String} {aft:Array Edge} {dst:Option Tmp} {acc:List Nat} {ol:List Oper}
theorem om {x:Operand} {v:Value} {ξ:Nat→Value} (h:ev (jk (G ξ) (gF (.move x))) x=some v):ObS P w0 ol H G ξ i ⟨dst,.move x,ty,pos,aft,none⟩ ⟨.det v,[]⟩:=bg (ap h)
theorem oh {j:Nat} {b:Bool} {v:Value} {A:List Asn} {ξ:Nat→Value} (hA:dO H acc i ξ=A) (hne:(acc.all fun e=>match H[e]? with | some h=>h.steps.all fun p=>!(Nat.beq p.1 i) | none=>true)=true) (hl:look (G ξ) (((ol[j]?).bind (·.dst)).getD 0)=some (.bool b))
 (hd:((ol[j]?).bind (·.dst)).isSome=true) (h:b=true→Rd P w0 (jk (G ξ) (gF op)) A op v) :
 ObS P w0 ol H G ξ i ⟨dst,op,ty,pos,aft,some (j,true)⟩ ⟨.det (gv b v),acc⟩:=og1 hA hne hl hd fun hg=>(h hg).step
end
end
end Go.Sx
namespace Go.Sx
open Go Go.RowKit
section
variable {P:Program} {w0:World} {F:List (Nat×Value)}
theorem fa {s:TypeId} {fs:Array Field} {f:Nat} {fld:Field} {n b k k':Nat} {x:Operand} (hu:∀ w,(underlying s).run P w=.ok (.struct fs) w) (hf:fs[f]?=some fld) (hz:∀ w,(sizeOf fld.type).run P w=.ok n w) (hn:Nat.beq n 0=false)
 (hx:ev F x=some (ptr b k)) (hk:k+fld.offset=k'):Rd P w0 F [] (.fieldAddr s x f) (ptr b k'):=r_fa hu hf hz (fun e=>by rw [e] at hn; cases hn) hx hk
theorem fs {s:TypeId} {fs:Array Field} {f:Nat} {fld:Field} {n m k k':Nat} {sv:Value} {x:Operand} (hu:∀ w,(underlying s).run P w=.ok (.struct fs) w) (hf:fs[f]?=some fld) (hz:∀ w,(sizeOf fld.type).run P w=.ok n w) (hn:Nat.beq n 0=false)
 (hs:NN sv m) (hx:ev F x=some (sel sv k)) (hk:k+fld.offset=k'):Rd P w0 F [] (.fieldAddr s x f) (sel sv k'):=r_faS hu hf hz (fun e=>by rw [e] at hn; cases hn) hs hx hk
end
end Go.Sx
namespace Go.Sx
open Go Go.RowKit
section
variable {P:Program} {w0 w:World} {N:Nat} {F:List (Nat×Value)} {L:List Asn} {a:Act} {ops:Array Oper} {Q:Exit→Act→World→Prop} {d:Nat} {op:Op} {rest:List Oper}
theorem gK {j dj:Nat} {want c b g:Bool} {dd:Option Tmp} {ty:TypeId} {pos:String} {aft:Array Edge} (h:St w0 N F L a w) (hj:(ops[j]?).bind (·.dst)=some dj) (hl:look F dj=some (gv c (.bool b))) (hg:(c && (b == want))=g) (hgt:g=true)
 (k:wpList P ops Q (⟨dd,op,ty,pos,aft,none⟩::rest) a w):wpList P ops Q (⟨dd,op,ty,pos,aft,some (j,want)⟩::rest) a w:=by
 have hw:=r9 (o:=⟨dd,op,ty,pos,aft,some (j,want)⟩) rfl hj h hl
 rw [hg,hgt] at hw
 unfold wpList at k ⊢
 rw [hw]
 exact k
end
end Go.Sx
namespace Go.Sx
open Go Go.RowKit
def PV (w:World) (b:Nat) (cs:List Value):Prop:=∃ e fr,w.heap[b]?=some (.cells cs.toArray e fr)
section
variable {P:Program} {w0:World} {F:List (Nat×Value)} {L:List Asn}
theorem PV.below {w w':World} {b:Nat} {cs:List Value} (h:PV w b cs) (hb:Below w.heap.size w w'):PV w' b cs:=by
 obtain ⟨e,fr,h⟩:=h
 refine ⟨e,fr,?_⟩
 rw [hb.block b (by rcases Nat.lt_or_ge b w.heap.size with h1 | h1; exact h1; simp [Array.getElem?_eq_none h1] at h)]
 exact h
theorem blk_pv {w:World} {b:Nat} {cs:List Value} {e:TypeId} (hs:∃ U,Sep w0.heap.size w L U) (i:Nat) (hi:L[i]?=some (Asn.blk b cs e)):PV w b cs:=by
 obtain ⟨U,hU⟩:=hs
 obtain ⟨f,⟨_,hh⟩,_⟩:=hU.at hi
 exact ⟨e,_,hh⟩
theorem r_ldP {t:TypeId} {agg:Bool} {n b k:Nat} {cs:List Value} {x:Operand} {v:Value} (hp:PV w0 b cs) (ht:∀ w,(isAgg t).run P w=.ok agg w) (hz:∀ w,(sizeOf t).run P w=.ok n w) (hx:ev F x=some (ptr b k))
 (hn:Nat.blt 0 n=true) (hl:((cs.drop k).take n).length=n) (hv:mkv agg ((cs.drop k).take n)=v):Rd P w0 F [] (.load t x) v:=by
 intro o a w U ho ha hb hs
 obtain ⟨e,fr,hh⟩:=hp.below hb
 have:=lC (P:=P) (g:=b) (o:=k) (w:=w) ht hz hl (Nat.le_of_ble_eq_true hn) (fun j v hj=>by
  have:w.cell? ⟨b,k+j,none⟩=cs[k+j]?:=by simp [World.cell?,hh]
  rw [this]; exact pe hj)
 simp [execOp,ho,ha x _ hx,Instr.loadAt,Instr.sureAddr,ptr,this,hv]
end
end Go.Sx
namespace Go.Sx
open Go Go.RowKit
section
variable {P:Program} {w0:World} {N:Nat} {F:List (Nat×Value)} {L:List Asn} {a:Act} {w:World} {ops:Array Oper} {Q:Exit→Act→World→Prop} {rest:List Oper}
 {d:Nat} {op:Op} {ty:TypeId} {pos:String} {aft:Array Edge}
theorem r7 {c:Code} (n:Nat) (h:c.wp P (Exit.then (Code.rounds P c Q n) Q) a w):(Code.loop c).wp P Q a w:=wp_loop_rounds (n+1) h
def y7 (v:Value):Prop:=∃ p l c,v=.slice p l c
theorem SL.is {v:Value} {n:Nat} (h:SL v n):y7 v:=by obtain ⟨b,c,rfl⟩:=h; exact ⟨_,_,_,rfl⟩
theorem s_slsl {t e:TypeId} {bytes:Nat} {x y:Operand} {u v:Value} (hT:SlT P t e 1 bytes [.slice none 0 0]) (hx:ev F x=some u) (hy:ev F y=some v) (hu:y7 u) (hv:y7 v) :
 gW P w0 F [] (.buildSlice t 2 #[(0,x),(1,y)]) (fun s=>∃ b,s=.slice (some ⟨b,0,none⟩) 2 2) (fun s=>match s with | .slice (some ⟨b,_,_⟩) _ _=>[Asn.blk b [u,v] e] | _=>[]):=by
 obtain ⟨up,ul,uc,rfl⟩:=hu
 obtain ⟨vp,vl,vc,rfl⟩:=hv
 intro o a w U K Q ho ha hb hs k
 obtain ⟨ht,i,z,hi,hz,hzc,hsz,hby,hzl,hn,_⟩:=hT
 unfold Oper.wp
 have hz':z.cells=#[.slice none 0 0]:=by rw [← Array.toArray_toList (xs:=z.cells),hzc]
 have hf:Instr.fill (fun i=>some (i*1,1)) ((Array.range (2*1)).map fun j=>(#[Value.slice none 0 0])[j % (#[Value.slice none 0 0]).size]!) [(0,.slice up ul uc),(1,.slice vp vl vc)]=some #[.slice up ul uc,.slice vp vl vc]:=by
  have h0:((Array.range (2*1)).map fun j=>(#[Value.slice none 0 0])[j % (#[Value.slice none 0 0]).size]!)=[Value.slice none 0 0,Value.slice none 0 0].toArray:=by
   apply Array.ext
   ·simp
   ·intro i h1 h2
    have:i=0∨i=1:=by simp at h2; omega
    rcases this with rfl | rfl <;> simp
  rw [h0]
  exact oC _ [(0,.slice up ul uc),(1,.slice vp vl vc)] [.slice none 0 0,.slice none 0 0] [.slice up ul uc,.slice vp vl vc] rfl
 have hr:(execOp a.eval o).run P w=.ok (.value (.slice (some ⟨w.heap.size,0,none⟩) 2 2)) (w.alloc (.cells #[.slice up ul uc,.slice vp vl vc] e)):=by
  have n1:¬ (2 ^ 24 < 2*1):=by omega
  have n2:¬ (2*1=0):=by omega
  simp only [execOp,ho,Instr.buildSlice,Sem.run_bind,run_underlying ht,Result.andThen_ok,sizeOf,typeInfo,run_program,hi,Sem.run_pure,hsz,gt_iff_lt,n1,n2,if_false,zeroValue,hz,hz',List.map_toArray,List.map_cons,List.map_nil,ha x _ hx,ha y _ hy,hf,newRow,run_newObj]
  rfl
 rw [hr]
 refine k _ _ (fun k=>k=w.heap.size) ⟨_,rfl⟩ ((jM w _).weak fun _ h=>h.elim) ⟨fun k=>k=w.heap.size,fun _=>False,fun k=>by simp,fun _ _=>id,fun k hk=>by simp only [hk,World.size_alloc]; have:=hb.size; omega,?_,fun _=>id⟩
 refine ⟨fun k=>Iff.rfl,?_⟩
 show (w.heap.push _)[w.heap.size]?=_; simp
theorem bsl (h:St w0 N F L a w) {t e:TypeId} {bytes:Nat} {x y:Operand} {u v:Value} (hT:SlT P t e 1 bytes [.slice none 0 0]) (hx:ev F x=some u) (hy:ev F y=some v) (hu:y7 u) (hv:y7 v) (hd:Nat.blt d N=true)
 (k:∀ b a w,St w0 N ((d,.slice (some ⟨b,0,none⟩) 2 2)::F) (Asn.blk b [u,v] e::L) a w→wpList P ops Q rest a w):wpList P ops Q (⟨some d,.buildSlice t 2 #[(0,x),(1,y)],ty,pos,aft,none⟩::rest) a w :=
 nw h (s_slsl hT hx hy hu hv) hd fun s a w ⟨b,hb⟩ h=>by subst hb; exact k b a w h
end
end Go.Sx
namespace Go.Sx
open Go Go.RowKit
structure Bd where
 at_:GR
 behind:Bool
 deriving DecidableEq
def cW (x:Bd):List Value:=cR x.at_++[.bool x.behind]
def vW (x:Bd):Value:=.agg (cW x).toArray
instance zi19:Cod Bd:=⟨cW,10,fun _=>rfl,fun x=>g8 (oneR _) (by simp [Value.oneCell']),by decide⟩
instance zi20:Inhabited Bd:=⟨⟨default,false⟩⟩
def SzW (k:Nat) (x:Bd):Prop:=SzR k x.at_
theorem SzW_d (k:Nat):SzW k default:=m8 k
end Go.Sx
namespace Go.Sx
open Go Go.RowKit
structure Ev where
 at_:Bd
 b0:Int
 b1:Int
 deriving DecidableEq
def cE (x:Ev):List Value:=cW x.at_++[.int .i64 x.b0,.int .i64 x.b1]
def vE (x:Ev):Value:=.agg (cE x).toArray
theorem oneW (x:Bd):∀ c∈cW x,c.oneCell'=true:=g8 (oneR _) (by simp [Value.oneCell'])
instance zi21:Cod Ev:=⟨cE,12,fun _=>rfl,fun x=>g8 (oneW _) (by simp [Value.oneCell']),by decide⟩
instance zi22:Inhabited Ev:=⟨⟨default,0,0⟩⟩
def SzE (k:Nat) (x:Ev):Prop:=SzW k x.at_
theorem tG (k:Nat):SzE k default:=SzW_d k
structure I2 where
 n0:Int
 n1:Int
 deriving DecidableEq
def cJ (x:I2):List Value:=[.int .i64 x.n0,.int .i64 x.n1]
instance zi23:Cod I2:=⟨cJ,2,fun _=>rfl,fun x=>by simp [cJ,Value.oneCell'],by decide⟩
instance zi24:Inhabited I2:=⟨⟨0,0⟩⟩
structure Bt (α β:Type) where
 iv:Iv
 f:α
 g:β
 deriving DecidableEq
instance zi25 {α β:Type} [Inhabited α] [Inhabited β]:Inhabited (Bt α β):=⟨⟨default,default,default⟩⟩
def cBI (x:Bt Qd Int):List Value:=cV x.iv++(cD x.f++[.int .i64 x.g])
instance zi26:Cod (Bt Qd Int):=⟨cBI,33,fun _=>rfl,fun x=>g8 (oneV _) (g8 (oneD _) (by simp [Value.oneCell'])),by decide⟩
def cBD (x:Bt Qd Qd):List Value:=cV x.iv++(cD x.f++cD x.g)
instance zi27:Cod (Bt Qd Qd):=⟨cBD,44,fun _=>rfl,fun x=>g8 (oneV _) (g8 (oneD _) (oneD _)),by decide⟩
end Go.Sx
namespace Go.Sx
open Go Go.RowKit Go.Proofs Go.Sort Go.Lib
section
variable {P:Program} {α β:Type} [Inhabited α] [Cod β]
theorem qS (val:α→β) (d:Array α):(flatK (fun x=>Cod.enc (val x)) (Cod.n β) d).toList=flat (d.toList.map val):=by
 apply List.ext_getElem?
 intro t
 by_cases ht:t < d.size*Cod.n β
 ·have hn:0 < Cod.n β:=Cod.pos
  have hi:t / Cod.n β < d.size:=Nat.div_lt_of_lt_mul (by rw [Nat.mul_comm]; exact ht)
  have hm:t % Cod.n β < Cod.n β:=Nat.mod_lt _ hn
  have e1:(d.toList.map val)[t / Cod.n β]?=some (val d[t / Cod.n β]!):=by
   rw [List.getElem?_map,Array.getElem?_toList,Array.getElem?_eq_getElem hi,Option.map_some,getElem!_pos d _ hi]
  have e2:=rL e1 hm
  rw [show t / Cod.n β*Cod.n β+t % Cod.n β=t by rw [Nat.mul_comm]; exact Nat.div_add_mod t _] at e2
  have hs:t < (flatK (fun x=>Cod.enc (val x)) (Cod.n β) d).size:=by rw [size_flatK]; exact ht
  have hl:t % Cod.n β < (Cod.enc (val d[t / Cod.n β]!)).length:=by rw [Cod.len]; exact hm
  rw [e2,Array.getElem?_toList,Array.getElem?_eq_getElem hs,← getElem!_pos _ t hs,get_flatK _ _ _ _ ht,List.getElem?_eq_getElem hl]
  exact congrArg some (getElem!_pos (Cod.enc (val d[t / Cod.n β]!)) (t % Cod.n β) hl)
 ·rw [List.getElem?_eq_none (by rw [Array.length_toList,size_flatK]; omega),List.getElem?_eq_none (by rw [bW,List.length_map,Array.length_toList]; omega)]
theorem wV (enc:α→List Value) (k:Nat) (w:World) (blk n:Nat) (d:Array α) (os:Array Obj) :
 (∀ j,j < w.heap.size→j≠blk→(sortWorldK enc k w blk 0 n d os).heap[j]?=w.heap[j]?) ∧
 (∀ cur e fr,w.heap[blk]?=some (.cells cur e fr)→(sortWorldK enc k w blk 0 n d os).heap[blk]?=some (.cells (putCells id 0 (flatK enc k d) cur) e fr)) ∧
 w.heap.size≤(sortWorldK enc k w blk 0 n d os).heap.size:=by
 have hh:(sortWorldK enc k w blk 0 n d os).heap=(w.heap.modify blk (onCells (putCells id 0 (flatK enc k d))))++os:=rfl
 have hz:(w.heap.modify blk (onCells (putCells id 0 (flatK enc k d)))).size=w.heap.size:=by simp
 refine ⟨fun j hj hne=>?_,fun cur e fr hc=>?_,?_⟩
 ·rw [hh,Array.getElem?_append_left (by rw [hz]; exact hj),Array.getElem?_modify,if_neg (fun e=>hne e.symm)]
 ·have hlt:blk < w.heap.size:=(Array.getElem?_eq_some_iff.1 hc).1
  rw [hh,Array.getElem?_append_left (by rw [hz]; exact hlt),Array.getElem?_modify,if_pos rfl,hc]; rfl
 ·rw [hh,Array.size_append,hz]; omega
theorem put_take (F cur:Array Value) (h:F.size≤cur.size):(putCells id 0 F cur).toList.take F.size=F.toList:=by
 apply List.ext_getElem?
 intro t
 by_cases ht:t < F.size
 ·rw [List.getElem?_take_of_lt ht,Array.getElem?_toList,Array.getElem?_toList]
  unfold putCells
  rw [Array.getElem?_mapIdx,Array.getElem?_eq_getElem (by omega:t < cur.size),Option.map_some,if_pos ⟨Nat.zero_le _,by omega⟩,Array.getElem?_eq_getElem ht,Nat.sub_zero]
  show some F[t]! = _
  rw [getElem!_pos F t ht]
 ·rw [List.getElem?_eq_none (by rw [List.length_take]; omega),List.getElem?_eq_none (by rw [Array.length_toList]; omega)]
theorem sort_own {val:α→β} {e:TypeId} {sv:Value} {d D':Array α} {F:FuncId} {more:List Value} {w0 w:World} {B:Asn} {p:Prop} (hd0:0 < d.size) (hD:D'.size=d.size) (hp:p)
 (hbel:Below w0.heap.size w0 w) (hsep:∃ U,Sep w0.heap.size w [Asn.row (α:=β) e sv (d.toList.map val),B] U)
 (hC:∀ blk cap,sv=.slice (some ⟨blk,0,none⟩) d.size cap→HoldsK (fun x=>Cod.enc (val x)) (Cod.n β) w blk 0 d→blk < w.heap.size→w0.heap.size≤blk →
   Calls P F (sv::more).toArray w fun r w'=>r=.returned (.tuple #[])∧∃ n os,w'=sortWorldK (fun x=>Cod.enc (val x)) (Cod.n β) w blk 0 n D' os) :
 Calls P F (sv::more).toArray w (RetY w0 (fun v=>v=.tuple #[]∧p) (fun _=>[Asn.row (α:=β) e sv (D'.toList.map val),B])):=by
 obtain ⟨U,f,V,hU,hdis,hlt,⟨hown,hf⟩,hB⟩:=hsep
 have hl1:(d.toList.map val).length=d.size:=by rw [List.length_map,Array.length_toList]
 have hl2:(D'.toList.map val).length=d.size:=by rw [List.length_map,Array.length_toList,hD]
 rcases hown.2 with ⟨_,h0⟩ | ⟨blk,cap,cur,hv,_,hg,hcap,hmx,hcs,htk⟩
 ·omega
 rw [hl1] at hv hcap htk
 have hfb:f blk:=(hf blk).2 (by rw [hv]; rfl)
 obtain ⟨hlo,hhi⟩:=hlt blk hfb
 have hcur:d.size*Cod.n β≤cur.size:=by rw [hcs]; exact Nat.mul_le_mul_right _ hcap
 have hH:HoldsK (fun x=>Cod.enc (val x)) (Cod.n β) w blk 0 d:=by
  intro j hj
  have hj':j < d.size*Cod.n β:=by rw [← size_flatK (fun x=>Cod.enc (val x)) (Cod.n β) d]; exact hj
  refine ⟨?_,?_⟩
  ·have h1:cur[j]?=some (flatK (fun x=>Cod.enc (val x)) (Cod.n β) d)[j]!:=by
    have h2:(cur.toList.take (d.size*Cod.n β))[j]?=(flat (d.toList.map val))[j]?:=by rw [htk]
    rw [List.getElem?_take_of_lt hj',Array.getElem?_toList,← qS,Array.getElem?_toList,Array.getElem?_eq_getElem hj] at h2
    rw [h2,getElem!_pos _ j hj]
   unfold World.cell?
   rw [hg,Nat.zero_add]
   exact h1
  ·unfold World.frozen?
   rw [hg]
   simp
 refine (hC blk cap hv hH hhi hlo).mono fun r w' ⟨hr,n,os,hw⟩=>?_
 subst hw
 obtain ⟨g1,g2,g3⟩:=wV (fun x=>Cod.enc (val x)) (Cod.n β) w blk n D' os
 refine ⟨.tuple #[],hr,⟨rfl,hp⟩,⟨hbel.os,hbel.tape,hbel.output,Nat.le_trans hbel.size g3,fun k hk=>?_,Nat.le_trans hbel.drawn (Nat.le_add_right _ _)⟩,U,f,V,hU,hdis,fun k hk=>⟨(hlt k hk).1,Nat.lt_of_lt_of_le (hlt k hk).2 g3⟩,⟨⟨bW _,.inr ⟨blk,cap,_,?_,Nat.zero_le _,g2 cur e (0,0) hg,?_,hmx,?_,?_⟩⟩,hf⟩,hB.keep g3 fun k hk=>?_⟩
 ·rw [g1 k (Nat.lt_of_lt_of_le hk hbel.size) og]
  exact hbel.block k hk
 ·rw [hl2]; exact hv
 ·rw [hl2]; exact hcap
 ·unfold putCells; rw [Array.size_mapIdx]; exact hcs
 ·have hF:(flatK (fun x=>Cod.enc (val x)) (Cod.n β) D').size=d.size*Cod.n β:=by rw [size_flatK,hD]
  rw [hl2,← hF,put_take _ _ (by rw [hF]; exact hcur),qS]
 ·exact g1 k ((hB.range k hk).2) fun ek=>hdis blk hfb (ek ▸ hk)
theorem lays_of {val:α→β} {g:Nat} {cf:α→α→Int} {blk size:Nat} {w:World} {p:α→α→Prop}
 (ct:∀ x y w,Calls P g #[.agg (Cod.enc (val x)).toArray,.agg (Cod.enc (val y)).toArray] w (RetP w (.int .i64 (cf x y)) (p x y))):CmpLays P g #[] (fun x=>Cod.enc (val x)) (Cod.n β) cf blk 0 size w:=by
 intro m os dk _ x y
 refine (ct x y (sortWorldK (fun x=>Cod.enc (val x)) (Cod.n β) w blk 0 m dk os)).mono fun r w' ⟨hr,_,hb⟩=>⟨hr,?_⟩
 generalize sortWorldK (fun x=>Cod.enc (val x)) (Cod.n β) w blk 0 m dk os=W at *
 refine ⟨w'.drawn - W.drawn,w'.heap.extract W.heap.size w'.heap.size,?_⟩
 have hheap:w'.heap=W.heap++w'.heap.extract W.heap.size w'.heap.size:=by
  apply Array.ext_getElem?
  intro k
  by_cases hk:k < W.heap.size
  ·rw [Array.getElem?_append_left hk,hb.block k hk]
  ·rw [Array.getElem?_append_right og,Array.getElem?_extract]
   by_cases hk2:k < w'.heap.size
   ·rw [if_pos (by have:=hb.size; omega),show W.heap.size+(k - W.heap.size)=k by omega]
   ·rw [if_neg og,Array.getElem?_eq_none og]
 have hd:w'.drawn=W.drawn+(w'.drawn - W.drawn):=by have:=hb.drawn; omega
 have hR:grow (W.drewN (w'.drawn - W.drawn)) (w'.heap.extract W.heap.size w'.heap.size)=(⟨W.heap++w'.heap.extract W.heap.size w'.heap.size,W.tape,W.drawn+(w'.drawn - W.drawn),W.os,W.output⟩:World):=rfl
 rw [hR,← hheap,← hd,← hb.os,← hb.tape,← hb.output]
end
end Go.Sx
namespace Go.Sx
open Go Go.RowKit
theorem isNil:y7 (.slice none 0 0):=⟨_,_,_,rfl⟩
section
variable {P:Program} {w0:World} {N:Nat} {F:List (Nat×Value)} {L:List Asn} {a:Act} {w:World} {ops:Array Oper} {Q:Exit→Act→World→Prop} {rest:List Oper}
 {d:Nat} {op:Op} {ty:TypeId} {pos:String} {aft:Array Edge}
theorem RetR.cast {α:Type} [Cod α] {f:FuncId} {args:Array Value} {e:TypeId} {xs ys:List α} {p:Prop} {w':World} (h:Calls P f args w (RetR w' e xs p)) (he:xs=ys):Calls P f args w (RetR w' e ys p):=he ▸ h
theorem RetP.cast {f:FuncId} {args:Array Value} {u v:Value} {p:Prop} {w':World} (h:Calls P f args w (RetP w' u p)) (he:u=v):Calls P f args w (RetP w' v p):=he ▸ h
theorem Rd.cast {u v:Value} (h:Rd P w0 F L op u) (he:u=v):Rd P w0 F L op v:=he ▸ h
end
end Go.Sx
namespace Go.Sx
open Go Go.RowKit
theorem NN.isl {v:Value} {n:Nat} (h:NN v n):y7 v:=h.sl.is
section
variable {P:Program} {w0:World} {F:List (Nat×Value)}
end
end Go.Sx
