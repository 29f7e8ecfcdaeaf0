/- A part of the proof of movingnumberChecks. -/
import Derived.Calls
import Derived.Orders
import Derived.Tactics
import Derived.Below
import Derived.Laws.AppendOwn
import Derived.Laws.Cells
import Derived.Laws.StructEq
import Derived.Deep.LoopGhost
import Derived.Laws.CopyRow
import Derived.Laws.Rows
import Derived.Laws.OwnMore
import Derived.Laws.MakeOwn
import Derived.Control
set_option linter.unusedVariables false
set_option linter.unusedSimpArgs false
namespace Go.Sx
open Go
theorem qs {α:Type}:∀ (a:Ask α) (w:World),w.drawn≤(w.ask a).2.drawn
 | .done a,w=>Nat.le_refl _
 | .ask what range k,w=>by
  unfold World.ask
  simp only
  split
  · exact qs (k 0) w
  · exact Nat.le_trans (Nat.le_succ _) (qs (k _) { w with drawn:=w.drawn+1 })
theorem pB (w:World) (c:Sys):w.drawn≤(w.sys c).2.drawn:=by
 have h:=qs (Kernel.perform c w.os) w
 unfold World.sys
 generalize w.ask (Kernel.perform c w.os)=x at *
 obtain ⟨⟨r,os⟩,w2⟩:=x
 cases r <;> first | exact Nat.le_refl _ | exact h
theorem px {p:Program} {w w':World} {at_:Addr} {u:TypeId} {k:Addr} {v:Value} {b:Bool} {l:List Addr} (h:w.viewStore p at_ u k v b=.ok (w',l)):w'.drawn=w.drawn:=by
 simp only [World.viewStore,bind,Except.bind,throw,throwThe,MonadExceptOf.throw,pure,Except.pure] at h
 repeat (first | contradiction | split at h)
 all_goals first | contradiction | (cases h; rfl)
theorem ko {p:Program} {w w':World} {a:Addr} {v:Value} {b:Bool} {l:List Addr} (h:w.farStore p a v b=.ok (w',l)):w'.drawn=w.drawn:=by
 unfold World.farStore at h
 split at h
 · split at h
   · rename_i r hr
     cases h
     exact px hr
   · cases h
 · cases h
theorem fc {α:Type} {p:Program}:∀ (s:Sem α) {w w':World} {a:α},s.run p w=.ok a w'→w.drawn≤w'.drawn
 | .pure b,w,w',a,h=>by cases h; exact Nat.le_refl _
 | .load m ad k,w,w',a,h=>by
  unfold Sem.run at h
  split at h
  · exact fc _ h
  · split at h
    · exact fc _ h
    · cases h
 | .store m ad v k,w,w',a,h=>by
  have key:∀ v':Value,(match w.cell? ad with
   | some _ => if w.frozen? ad then Result.halt (.unsupported (.unsafePointer "a write to bytes that a string shares")) w else k.run p (w.setCell ad v')
   | none=>match w.farStore p ad v' (m == .atomic) with
    | .ok (w,_)=>k.run p w
    | .error h=>.halt h w)=Result.ok a w'→w.drawn≤w'.drawn:=fun v' h=>by
   split at h
   · split at h
     · cases h
     · exact fc k (w:=w.setCell ad v') h
   · split at h
     · rename_i w2 l hf
       exact Nat.le_trans (Nat.le_of_eq (ko hf).symm) (fc k h)
     · cases h
  cases v <;> first | exact key _ h | (have h2:Result.halt _ _=Result.ok a w':=h; cases h2)
 | .new o k,w,w',a,h=>by
  unfold Sem.run at h
  exact fc (k w.heap.size) (w:={ w with heap:=w.heap.push o }) h
 | .shape r k,w,w',a,h=>by
  unfold Sem.run at h
  exact fc _ h
 | .freeze ad n k,w,w',a,h=>by
  unfold Sem.run at h
  have h1:=fc k h
  have h2:(w.freeze ad n).drawn=w.drawn:=by unfold World.freeze; split <;> rfl
  omega
 | .frozen ad k,w,w',a,h=>by
  unfold Sem.run at h
  exact fc _ h
 | .getObj r k,w,w',a,h=>by
  unfold Sem.run at h
  split at h
  · cases h
  · exact fc _ h
  · cases h
 | .setObj r o k,w,w',a,h=>by
  unfold Sem.run at h
  split at h
  · cases h
  · exact fc k (w:={ w with heap:=w.heap.setIfInBounds r o }) h
  · cases h
 | .choose q k,w,w',a,h=>by
  unfold Sem.run at h
  split at h
  · exact fc _ h
  · exact Nat.le_trans (Nat.le_succ _) (fc (k _) (w:={ w with drawn:=w.drawn+1 }) h)
 | .sys c k,w,w',a,h=>by
  unfold Sem.run at h
  exact Nat.le_trans (pB w c) (fc _ h)
 | .program k,w,w',a,h=>by
  unfold Sem.run at h
  exact fc _ h
 | .mark m k,w,w',a,h=>by
  unfold Sem.run at h
  exact fc k h
 | .halt hl,w,w',a,h=>by cases h
end Go.Sx
namespace Go.Sx
open Go Go.RowKit
def look:List (Nat×Value)→Nat→Option Value
 | [],_=>none
 | (t,v)::F,n=>bif Nat.beq t n then some v else look F n
def ev (F:List (Nat×Value)):Operand→Option Value
 | .tmp t=>look F t
 | .const v=>some v
 | .global g=>some (.pointer (some ⟨g,0,none⟩))
 | .func f=>some (.func (.func f) #[] #[])
def evs (F:List (Nat×Value)):List Operand→Option (List Value)
 | []=>some []
 | x::xs=>match ev F x,evs F xs with
  | some v,some vs=>some (v::vs)
  | _,_=>none
def Agr (F:List (Nat×Value)) (a:Act):Prop:=∀ x v,ev F x=some v→a.eval x=v
theorem Agr.evs {F:List (Nat×Value)} {a:Act} (h:Agr F a):∀ {xs:List Operand} {vs:List Value},evs F xs=some vs→xs.map a.eval=vs
 | [],vs,e=>by simp [Sx.evs] at e; subst e; rfl
 | x::xs,vs,e=>by
  simp only [Sx.evs] at e
  cases h1:ev F x with
  | none=>simp [h1] at e
  | some v =>
   cases h2:Sx.evs F xs with
   | none=>simp [h1,h2] at e
   | some ws =>
    simp only [h1,h2,Option.some.injEq] at e
    subst e
    simp [h x v h1,Agr.evs h h2]
abbrev Fp:=Nat→Prop
structure Asn where
 sem:World→Fp→Prop
 loc:∀ {w w':World} {f:Fp},(∀ b,f b→w'.heap[b]?=w.heap[b]?)→sem w f→sem w' f
def Sep (lo:Nat) (w:World):List Asn→Fp→Prop
 | [],U=>∀ k,¬ U k
 | r::L,U=>∃ f V:Fp,(∀ k,U k↔f k∨V k)∧(∀ k,f k→¬ V k)∧(∀ k,f k→lo≤k∧k < w.heap.size)∧r.sem w f∧Sep lo w L V
theorem Sep.range {lo:Nat} {w:World}:∀ {L:List Asn} {U:Fp},Sep lo w L U→∀ k,U k→lo≤k∧k < w.heap.size
 | [],_,h,k,hk=>(h k hk).elim
 | _::_,_,⟨_,_,hU,_,hf,_,hs⟩,k,hk=>((hU k).1 hk).elim (hf k) (Sep.range hs k)
theorem Sep.congr {lo:Nat} {w:World}:∀ {L:List Asn} {U V:Fp},Sep lo w L U→(∀ k,U k↔V k)→Sep lo w L V
 | [],_,_,h,e=>fun k hk=>h k ((e k).2 hk)
 | _::_,_,_,⟨f,W,hU,hd,hf,hr,hs⟩,e=>⟨f,W,fun k=>(e k).symm.trans (hU k),hd,hf,hr,hs⟩
theorem Sep.keep {lo:Nat} {w w':World} (hz:w.heap.size≤w'.heap.size):∀ {L:List Asn} {U:Fp},Sep lo w L U→(∀ k,U k→w'.heap[k]?=w.heap[k]?)→Sep lo w' L U
 | [],_,h,_=>h
 | r::_,_,⟨f,V,hU,hd,hf,hr,hs⟩,e =>
  ⟨f,V,hU,hd,fun k hk=>⟨(hf k hk).1,Nat.lt_of_lt_of_le (hf k hk).2 hz⟩,r.loc (fun k hk=>e k ((hU k).2 (.inl hk))) hr,Sep.keep hz hs fun k hk=>e k ((hU k).2 (.inr hk))⟩
theorem Sep.moved {lo:Nat} {w w':World}:∀ {L:List Asn} {U:Fp},Sep lo w L U→(∀ k,U k→w'.heap[k]?=w.heap[k]?)→Sep lo w' L U
 | [],_,h,_=>h
 | r::_,_,⟨f,V,hU,hd,hf,hr,hs⟩,e =>
  ⟨f,V,hU,hd,fun k hk=>⟨(hf k hk).1,by
   have h1:=e k ((hU k).2 (.inl hk))
   have h2:=(hf k hk).2
   rw [Array.getElem?_eq_getElem h2] at h1
   exact (Array.getElem?_eq_some_iff.1 h1).1⟩,r.loc (fun k hk=>e k ((hU k).2 (.inl hk))) hr,Sep.moved hs fun k hk=>e k ((hU k).2 (.inr hk))⟩
theorem Sep.lower {lo lo':Nat} {w:World} (hl:lo'≤lo):∀ {L:List Asn} {U:Fp},Sep lo w L U→Sep lo' w L U
 | [],_,h=>h
 | _::_,_,⟨f,V,hU,hd,hf,hr,hs⟩=>⟨f,V,hU,hd,fun k hk=>⟨Nat.le_trans hl (hf k hk).1,(hf k hk).2⟩,hr,Sep.lower hl hs⟩
theorem Sep.perm {lo:Nat} {w:World} {L L':List Asn} (p:L.Perm L'):∀ {U:Fp},Sep lo w L U→Sep lo w L' U:=by
 induction p with
 | nil=>exact id
 | cons r _ ih=>rintro U ⟨f,V,hU,hd,hf,hr,hs⟩; exact ⟨f,V,hU,hd,hf,hr,ih hs⟩
 | swap r s L =>
  rintro U ⟨f,V,hU,hd,hf,hr,g,W,hV,hd2,hg,hs,hrest⟩
  refine ⟨g,fun k=>f k∨W k,fun k=>?_,fun k hk=>?_,hg,hs,f,W,fun k=>Iff.rfl,fun k hk=>?_,hf,hr,hrest⟩
  · rw [hU,hV]
    constructor
    · rintro (h | h | h)
      · exact .inr (.inl h)
      · exact .inl h
      · exact .inr (.inr h)
    · rintro (h | h | h)
      · exact .inr (.inl h)
      · exact .inl h
      · exact .inr (.inr h)
  · rintro (h | h)
    · exact hd k h ((hV k).2 (.inl hk))
    · exact hd2 k hk h
  · exact fun h=>hd k hk ((hV k).2 (.inr h))
 | trans _ _ h1 h2=>exact fun h=>h2 (h1 h)
theorem Sep.append {lo:Nat} {w:World}:∀ {A B:List Asn} {U V:Fp},Sep lo w A U→Sep lo w B V→(∀ k,U k→¬ V k)→Sep lo w (A++B) fun k=>U k∨V k
 | [],B,U,V,hA,hB,_=>Sep.congr hB fun k=>⟨.inr,fun h=>h.resolve_left (hA k)⟩
 | r::A,B,U,V,⟨f,W,hU,hd,hf,hr,hs⟩,hB,hUV =>
  ⟨f,fun k=>W k∨V k,fun k=>by show U k∨V k↔f k∨W k∨V k; rw [hU k,or_assoc],fun k hk h=>h.elim (hd k hk) (hUV k ((hU k).2 (.inl hk))),hf,hr,
   Sep.append hs hB fun k hk=>hUV k ((hU k).2 (.inr hk))⟩
theorem Sep.split {lo:Nat} {w:World}:∀ {A B:List Asn} {U:Fp},Sep lo w (A++B) U→∃ V W:Fp,Sep lo w A V∧Sep lo w B W∧(∀ k,V k→¬ W k)∧∀ k,U k↔V k∨W k
 | [],B,U,h=>⟨fun _=>False,U,fun _=>id,h,fun _ h=>h.elim,fun k=>⟨.inr,fun h=>h.resolve_left id⟩⟩
 | r::A,B,U,⟨f,V,hU,hd,hf,hr,hs⟩=>by
  obtain ⟨X,Y,hA,hB,hXY,hV⟩:=Sep.split hs
  refine ⟨fun k=>f k∨X k,Y,⟨f,X,fun _=>Iff.rfl,fun k hk h=>hd k hk ((hV k).2 (.inl h)),hf,hr,hA⟩,hB,?_,fun k=>by rw [hU k,hV k,or_assoc]⟩
  rintro k (h | h) hy
  · exact hd k h ((hV k).2 (.inr hy))
  · exact hXY k h hy
structure Below (B:Nat) (w w':World):Prop where
 os:w'.os=w.os
 tape:w'.tape=w.tape
 output:w'.output=w.output
 size:w.heap.size≤w'.heap.size
 block:∀ k,k < B→w'.heap[k]?=w.heap[k]?
 drawn:w.drawn≤w'.drawn
theorem Below.refl (B:Nat) (w:World):Below B w w:=⟨rfl,rfl,rfl,Nat.le_refl _,fun _ _=>rfl,Nat.le_refl _⟩
theorem Below.kit {B:Nat} {w w':World} (h:Below B w w'):Go.RowKit.Below B w w':=⟨h.os,h.tape,h.output,h.size,h.block⟩
structure Moves {w0:World} (w w':World) (U U':Fp):Prop where
 os:w'.os=w.os
 tape:w'.tape=w.tape
 output:w'.output=w.output
 size:∀ n,n≤w.heap.size→(∀ k,U k→n≤k)→n≤w'.heap.size
 block:∀ k,k < w.heap.size→¬ U k→w'.heap[k]?=w.heap[k]?
 new:∀ k,U' k→U k∨w.heap.size≤k
 drawn:w0.drawn≤w.drawn→w0.drawn≤w'.drawn
theorem Moves.same {w0:World} (w:World) (U:Fp):Moves (w0:=w0) w w U U:=⟨rfl,rfl,rfl,fun _ h _=>h,fun _ _ _=>rfl,fun _=>.inl,id⟩
theorem Moves.below {w0 w w':World} {U U':Fp} (h:Moves (w0:=w0) w w' U U') (hb:Below w0.heap.size w0 w) (hU:∀ k,U k→w0.heap.size≤k):Below w0.heap.size w0 w' :=
 ⟨h.os.trans hb.os,h.tape.trans hb.tape,h.output.trans hb.output,h.size _ hb.size hU,fun k hk=>by
  rw [h.block k (Nat.lt_of_lt_of_le hk hb.size) (fun hu=>absurd (hU k hu) (by omega))]
  exact hb.block k hk,h.drawn hb.drawn⟩
def Step (P:Program) (w0:World) (F:List (Nat×Value)) (L:List Asn) (op:Op) (φ:Value→Prop) (L':Value→List Asn):Prop :=
 ∀ (o:Oper) (a:Act) (w:World) (U:Fp) (K:Act→World→Prop) (Q:Exit→Act→World→Prop),o.op=op →
  Agr F a→Below w0.heap.size w0 w→Sep w0.heap.size w L U →
  (∀ v w' U',φ v→Moves (w0:=w0) w w' U U'→Sep w0.heap.size w' (L' v) U'→K (a.put o.dst v) w')→o.wp P a w K Q
def Rd (P:Program) (w0:World) (F:List (Nat×Value)) (L:List Asn) (op:Op) (v:Value):Prop :=
 ∀ (o:Oper) (a:Act) (w:World) (U:Fp),o.op=op→Agr F a→Below w0.heap.size w0 w→Sep w0.heap.size w L U→(execOp a.eval o).run P w=.ok (.value v) w
theorem Rd.step {P:Program} {w0:World} {F:List (Nat×Value)} {L:List Asn} {op:Op} {v:Value} (h:Rd P w0 F L op v):Step P w0 F L op (·=v) (fun _=>L) :=
 fun o a w U K Q ho ha hb hs k=>by
  unfold Oper.wp
  rw [h o a w U ho ha hb hs]
  exact k v w U rfl (Moves.same w U) hs
structure St (w0:World) (N:Nat) (F:List (Nat×Value)) (L:List Asn) (a:Act) (w:World):Prop where
 size:a.tmps.size=N
 defers:a.defers=[]
 regs:∀ t v,look F t=some v→a.tmps[t]?=some v
 bel:Below w0.heap.size w0 w
 sep:∃ U,Sep w0.heap.size w L U
theorem St.agr {w0:World} {N:Nat} {F:List (Nat×Value)} {L:List Asn} {a:Act} {w:World} (h:St w0 N F L a w):Agr F a:=by
 intro x v hx
 cases x with
 | tmp t=>simp [ev] at hx; simp [Act.eval,h.regs t v hx]
 | const u=>simp [ev] at hx; exact hx
 | global g=>simp [ev] at hx; exact hx
 | func f=>simp [ev] at hx; exact hx
theorem regs_put {F:List (Nat×Value)} {a:Act} {d:Nat} {v:Value} {N:Nat} (hz:a.tmps.size=N) (hd:Nat.blt d N=true) (h:∀ t v,look F t=some v→a.tmps[t]?=some v) :
 ∀ t u,look ((d,v)::F) t=some u→(a.put (some d) v).tmps[t]?=some u:=by
 intro t u hu
 have hd':d < a.tmps.size:=by rw [hz]; exact Nat.le_of_ble_eq_true hd
 simp only [look] at hu
 simp only [Act.put,Array.getElem?_setIfInBounds]
 by_cases e:d=t
 · subst e
   simp at hu
   simp [hd',hu]
 · have e':Nat.beq d t=false:=by
    cases hb:Nat.beq d t with
    | false=>rfl
    | true=>exact absurd (Nat.eq_of_beq_eq_true hb) e
   simp only [e',cond_false] at hu
   simp [e,h t u hu]
theorem St.put {w0:World} {N:Nat} {F:List (Nat×Value)} {L L':List Asn} {a:Act} {w w':World} (h:St w0 N F L a w) {d:Nat} (hd:Nat.blt d N=true) (v:Value)
 (hb:Below w0.heap.size w0 w') {U:Fp} (hs:Sep w0.heap.size w' L' U):St w0 N ((d,v)::F) L' (a.put (some d) v) w' :=
 ⟨by simp [Act.put,h.size],h.defers,regs_put h.size hd h.regs,hb,U,hs⟩
theorem eZ {α:Type}:∀ {L:List α} {i:Nat} {r:α} (s:α),L[i]?=some r→∃ B,L.Perm (r::B)∧(s::B).Perm (L.set i s)
 | [],_,_,_,h=>by simp at h
 | x::L,0,r,s,h=>by
  simp at h; subst h
  exact ⟨L,.refl _,.refl _⟩
 | x::L,i+1,r,s,h=>by
  obtain ⟨B,h1,h2⟩:=eZ s (L:=L) (i:=i) (by simpa using h)
  exact ⟨x::B,(h1.cons x).trans (.swap _ _ _),(List.Perm.swap _ _ _).trans (h2.cons x)⟩
section
variable {P:Program} {w0:World} {N:Nat} {F:List (Nat×Value)} {L:List Asn} {a:Act} {w:World} {ops:Array Oper} {Q:Exit→Act→World→Prop} {rest:List Oper}
 {d:Nat} {op:Op} {ty:TypeId} {pos:String} {aft:Array Edge}
theorem St.gen {A B:List Asn} {φ:Value→Prop} {A':Value→List Asn} (h:St w0 N F L a w) (hp:L.Perm (A++B)) (hs:Step P w0 F A op φ A') (o:Oper) (ho:o.op=op)
 {K:Act→World→Prop} (k:∀ v w' U,φ v→Below w0.heap.size w0 w'→Sep w0.heap.size w' (A' v++B) U→K (a.put o.dst v) w'):o.wp P a w K Q:=by
 obtain ⟨U,hU⟩:=h.sep
 obtain ⟨V,W,hA,hB,hVW,_⟩:=(Sep.perm hp hU).split
 refine hs o a w V K Q ho h.agr h.bel hA fun v w' V' hv hm hA'=>k v w' (fun k=>V' k∨W k) hv ?_ ?_
 · exact hm.below h.bel fun k hk=>(hA.range k hk).1
 · have hB':Sep w0.heap.size w' B W:=hB.moved fun k hk=>hm.block k (hB.range k hk).2 fun hv=>hVW k hv hk
   exact hA'.append hB' fun k hk hw=>(hm.new k hk).elim (fun hv=>hVW k hv hw) fun hge=>absurd (hB.range k hw).2 (by omega)
theorem Rd.of_mem {v:Value} {i:Nat} {r:Asn} (h:Rd P w0 F [r] op v) (hi:L[i]?=some r):Rd P w0 F L op v:=by
 intro o a w U ho ha hb hs
 obtain ⟨B,hp,_⟩:=eZ r hi
 obtain ⟨V,W,hA,_⟩:=(Sep.perm hp hs).split (A:=[r])
 exact h o a w V ho ha hb hA
theorem Rd.of_nil {v:Value} (h:Rd P w0 F [] op v):Rd P w0 F L op v :=
 fun o a w _ ho ha hb _=>h o a w (fun _=>False) ho ha hb (fun _=>id)
theorem rd (h:St w0 N F L a w) {v:Value} (hs:Rd P w0 F L op v) (hd:Nat.blt d N=true) (k:∀ a w,St w0 N ((d,v)::F) L a w→wpList P ops Q rest a w) :
 wpList P ops Q (⟨some d,op,ty,pos,aft,none⟩::rest) a w :=
 wpList_plain rfl fun K hK=>by
  obtain ⟨U,hU⟩:=h.sep
  unfold Oper.wp
  rw [hs _ a w U rfl h.agr h.bel hU]
  exact hK _ _ (k _ _ (h.put hd v h.bel hU))
theorem rd0 (h:St w0 N F L a w) {v:Value} (hs:Rd P w0 F [] op v) (hd:Nat.blt d N=true) (k:∀ a w,St w0 N ((d,v)::F) L a w→wpList P ops Q rest a w) :
 wpList P ops Q (⟨some d,op,ty,pos,aft,none⟩::rest) a w:=rd h hs.of_nil hd k
theorem rd1 (h:St w0 N F L a w) (i:Nat) {r:Asn} {v:Value} (hi:L[i]?=some r) (hs:Rd P w0 F [r] op v) (hd:Nat.blt d N=true) (k:∀ a w,St w0 N ((d,v)::F) L a w→wpList P ops Q rest a w) :
 wpList P ops Q (⟨some d,op,ty,pos,aft,none⟩::rest) a w:=rd h (hs.of_mem hi) hd k
theorem nw (h:St w0 N F L a w) {φ:Value→Prop} {A':Value→List Asn} (hs:Step P w0 F [] op φ A') (hd:Nat.blt d N=true)
 (k:∀ v a w,φ v→St w0 N ((d,v)::F) (A' v++L) a w→wpList P ops Q rest a w):wpList P ops Q (⟨some d,op,ty,pos,aft,none⟩::rest) a w :=
 wpList_plain rfl fun _ hK=>h.gen (A:=[]) (.refl _) hs _ rfl fun v _ _ hv hb hs'=>hK _ _ (k v _ _ hv (h.put hd v hb hs'))
theorem up (h:St w0 N F L a w) (i:Nat) {r r':Asn} (hi:L[i]?=some r) (hs:Step P w0 F [r] op (·=undef) (fun _=>[r'])) (k:∀ a w,St w0 N F (L.set i r') a w→wpList P ops Q rest a w) :
 wpList P ops Q (⟨none,op,ty,pos,aft,none⟩::rest) a w :=
 wpList_plain rfl fun _ hK=>by
  obtain ⟨B,hp,hp'⟩:=eZ r' hi
  exact h.gen (A:=[r]) hp hs _ rfl fun v _ U hv hb hs'=>hK _ _ (k _ _ ⟨h.size,h.defers,h.regs,hb,U,hs'.perm hp'⟩)
theorem up1 (h:St w0 N F L a w) (i:Nat) {r:Asn} {φ:Value→Prop} {r':Value→Asn} (hi:L[i]?=some r) (hs:Step P w0 F [r] op φ (fun v=>[r' v])) (hd:Nat.blt d N=true)
 (k:∀ v a w,φ v→St w0 N ((d,v)::F) (L.set i (r' v)) a w→wpList P ops Q rest a w):wpList P ops Q (⟨some d,op,ty,pos,aft,none⟩::rest) a w :=
 wpList_plain rfl fun _ hK=>h.gen (A:=[r]) (B:=(eZ r hi).choose) (eZ r hi).choose_spec.1 hs _ rfl fun v _ U hv hb hs'=>by
  refine hK _ _ (k v _ _ hv (h.put hd v hb (U:=U) (hs'.perm ?_)))
  obtain ⟨B',hp,hp'⟩:=eZ (r' v) hi
  have:((eZ r hi).choose).Perm B':=List.Perm.cons_inv ((eZ r hi).choose_spec.1.symm.trans hp)
  exact (this.cons _).trans hp'
def gv (c:Bool) (v:Value):Value:=bif c then v else undef
theorem gC {x:Operand} {c:Bool} {v:Value} (h:ev F x=some (gv c v)) (hc:c=true):ev F x=some v:=by rw [h,hc]; rfl
theorem sD {ops:Array Oper} {j dj:Nat} {want c b:Bool} {o:Oper} (hg:o.guard=some (j,want)) (hj:(ops[j]?).bind (·.dst)=some dj) (h:St w0 N F L a w) (hl:look F dj=some (gv c (.bool b))) :
 Region.wanted o (yielded ops a.tmps)=(c && (b == want)):=by
 simp only [Region.wanted,hg,yielded,hj,Option.bind_some,h.regs dj _ hl]
 cases c <;> cases b <;> cases want <;> rfl
theorem gd {j dj:Nat} {want c b g:Bool} (h:St w0 N F L a w) (hj:(ops[j]?).bind (·.dst)=some dj) (hl:look F dj=some (gv c (.bool b))) (hg:(c && (b == want))=g)
 {v:Value} (hs:g=true→Step P w0 F L op (·=v) (fun _=>L)) (hd:Nat.blt d N=true)
 (k:∀ a w,St w0 N ((d,gv g v)::F) L a w→wpList P ops Q rest a w):wpList P ops Q (⟨some d,op,ty,pos,aft,some (j,want)⟩::rest) a w:=by
 have hw:=sD (o:=⟨some d,op,ty,pos,aft,some (j,want)⟩) rfl hj h hl
 rw [hg] at hw
 obtain ⟨U,hU⟩:=h.sep
 unfold wpList
 rw [hw]
 cases g with
 | false=>exact k _ _ (h.put hd undef h.bel hU)
 | true=>exact .inl ((h.gen (A:=L) (B:=[]) (by simp) (hs rfl) _ rfl fun v' w' U' hv hb hs'=>by
  subst hv
  exact k _ _ (h.put hd v' hb (U:=U') (by simpa using hs'))))
theorem g_t {b:Bool}:(true && (b == true))=b:=by cases b <;> rfl
theorem g_f {b:Bool}:(true && (b == false))=!b:=by cases b <;> rfl
theorem g_ct {c b:Bool}:(c && (b == true))=(c && b):=by cases b <;> rfl
theorem g_cf {c b:Bool}:(c && (b == false))=(c && !b):=by cases b <;> rfl
end
end Go.Sx
namespace Go.Sx
open Go Go.RowKit
def ptr (b k:Nat):Value:=.pointer (some ⟨b,k,none⟩)
def sel (sv:Value) (k:Nat):Value:=match sv with | .slice (some a) _ _=>ptr a.block (a.off+k) | _=>undef
def Asn.emp:Asn:=⟨fun _ f=>∀ k,¬ f k,fun _ h=>h⟩
def Asn.blk (b:Nat) (cs:List Value) (e:TypeId):Asn :=
 ⟨fun w f=>(∀ k,f k↔k=b)∧w.heap[b]?=some (.cells cs.toArray e (0,0)),fun h ⟨h1,h2⟩=>⟨h1,by rw [h b ((h1 b).2 rfl)]; exact h2⟩⟩
class Cod (α:Type) where
 enc:α→List Value
 n:Nat
 len:∀ x,(enc x).length=n
 one:∀ x,∀ c∈enc x,c.oneCell'=true
 pos:0 < n
def flat {α:Type} [Cod α] (xs:List α):List Value:=xs.flatMap Cod.enc
theorem bV {α:Type} [Cod α]:∀ xs:List α,(flat xs).length=xs.length*Cod.n α
 | []=>by simp [flat]
 | x::xs=>by
  have:=bV xs
  simp only [flat,List.flatMap_cons,List.length_append,List.length_cons,Cod.len] at *
  rw [this,Nat.add_mul,Nat.one_mul,Nat.add_comm]
theorem jn {α:Type} [Cod α] (xs ys:List α):flat (xs++ys)=flat xs++flat ys:=by simp [flat]
theorem rU {α:Type} [Cod α] (xs:List α):∀ c∈flat xs,c.oneCell'=true:=by
 intro c hc
 obtain ⟨x,_,h⟩:=List.mem_flatMap.1 hc
 exact Cod.one x c h
theorem rV {α:Type} [Cod α]:∀ {xs:List α} {i:Nat} {u:α} {j:Nat},xs[i]?=some u→j < Cod.n α→(flat xs)[i*Cod.n α+j]?=(Cod.enc u)[j]?
 | [],i,u,j,h,_=>by simp at h
 | x::xs,0,u,j,h,hj=>by
  simp at h; subst h
  simp [flat,List.getElem?_append_left (show j < (Cod.enc x).length by rw [Cod.len]; exact hj)]
 | x::xs,i+1,u,j,h,hj=>by
  have ih:=rV (xs:=xs) (i:=i) (u:=u) (j:=j) (by simpa using h) hj
  simp only [flat,List.flatMap_cons] at *
  rw [List.getElem?_append_right (by rw [Cod.len,Nat.add_mul,Nat.one_mul]; omega),Cod.len,← ih]
  congr 1
  rw [Nat.add_mul,Nat.one_mul]; omega
def Asn.row {α:Type} [Cod α] (e:TypeId) (sv:Value) (xs:List α):Asn :=
 ⟨fun w f=>w.ownsRow 0 e (Cod.n α) sv xs.length (flat xs)∧(∀ k,f k↔sv.ownBlock=some k),by
  rintro w w' f h ⟨⟨h1,h2⟩,h3⟩
  refine ⟨⟨h1,?_⟩,h3⟩
  rcases h2 with h2 | ⟨g,cap,cur,hv,hg,hh,r⟩
  · exact .inl h2
  · refine .inr ⟨g,cap,cur,hv,hg,?_,r⟩
    rw [h g ((h3 g).2 (by rw [hv]; rfl))]
    exact hh⟩
def tY:Value→Nat
 | .slice _ _ c=>c
 | _=>0
def View {α:Type} [Cod α] (w:World) (sv:Value) (xs:List α):Prop :=
 (xs.length≤maxLen∧xs.length≤tY sv)∧((sv=.slice none 0 0∧xs=[])∨∃ g off cap cur e fr,sv=.slice (some ⟨g,off,none⟩) xs.length cap∧w.heap[g]?=some (.cells cur e fr)∧∀ j,j < (flat xs).length→cur[off+j]?=(flat xs)[j]?)
theorem View.below {α:Type} [Cod α] {w w':World} {sv:Value} {xs:List α} (h:View w sv xs) (hb:Below w.heap.size w w'):View w' sv xs:=by
 obtain ⟨h0,h | ⟨g,off,cap,cur,e,fr,h1,h2,h3⟩⟩:=h
 · exact ⟨h0,.inl h⟩
 · refine ⟨h0,.inr ⟨g,off,cap,cur,e,fr,h1,?_,h3⟩⟩
   rw [hb.block g (by rcases Nat.lt_or_ge g w.heap.size with h | h; exact h; simp [Array.getElem?_eq_none h] at h2)]
   exact h2
def SL (sv:Value) (n:Nat):Prop:=∃ a c,sv=.slice a n c
def NN (sv:Value) (n:Nat):Prop:=∃ g off c,sv=.slice (some ⟨g,off,none⟩) n c
theorem NN.sl {sv:Value} {n:Nat}:NN sv n→SL sv n:=fun ⟨_,_,c,h⟩=>⟨_,c,h⟩
theorem View.sl {α:Type} [Cod α] {w:World} {sv:Value} {xs:List α} (h:View w sv xs):SL sv xs.length:=by
 obtain ⟨_,⟨h,rfl⟩ | ⟨g,off,cap,cur,e,fr,h1,_⟩⟩:=h
 · exact ⟨_,_,h⟩
 · exact ⟨_,_,h1⟩
theorem View.nn {α:Type} [Cod α] {w:World} {sv:Value} {xs:List α} (h:View w sv xs) {i:Nat} (hi:i < xs.length):NN sv xs.length:=by
 obtain ⟨_,⟨h,rfl⟩ | ⟨g,off,cap,cur,e,fr,h1,_⟩⟩:=h
 · simp at hi
 · exact ⟨_,_,_,h1⟩
theorem wL {w:World} {base e size:Nat} {sv:Value} {n:Nat} {xs:List Value} (h:w.ownsRow base e size sv n xs):SL sv n:=by
 obtain ⟨_,⟨h,rfl⟩ | ⟨g,cap,cur,h,_⟩⟩:=h
 · exact ⟨_,_,h⟩
 · exact ⟨_,_,h⟩
theorem wM {w:World} {base e size:Nat} {sv:Value} {n:Nat} {xs:List Value} (h:w.ownsRow base e size sv n xs) (hn:0 < n):NN sv n:=by
 obtain ⟨_,⟨h,rfl⟩ | ⟨g,cap,cur,h,_⟩⟩:=h
 · omega
 · exact ⟨_,_,_,h⟩
theorem ic {α:Type} [Cod α] {w:World} {base e:Nat} {sv:Value} {xs:List α} (h:w.ownsRow base e (Cod.n α) sv xs.length (flat xs)):View w sv xs:=by
 obtain ⟨_,⟨h,h0⟩ | ⟨g,cap,cur,h,_,hh,hc,hm,hs,ht⟩⟩:=h
 · exact ⟨⟨by rw [h0]; exact Nat.zero_le _,by rw [h0]; exact Nat.zero_le _⟩,.inl ⟨h,List.eq_nil_of_length_eq_zero h0⟩⟩
 · refine ⟨⟨Nat.le_trans hc hm,by rw [h]; exact hc⟩,.inr ⟨g,0,cap,cur,e,(0,0),h,hh,fun j hj=>?_⟩⟩
   rw [← ht,List.getElem?_take_of_lt (by rwa [bV] at hj),Array.getElem?_toList,Nat.zero_add]
section
variable {P:Program} {w0:World} {N:Nat} {F:List (Nat×Value)} {L:List Asn} {a:Act} {w:World} {ops:Array Oper} {Q:Exit→Act→World→Prop} {rest:List Oper}
 {d:Nat} {op:Op} {ty:TypeId} {pos:String} {aft:Array Edge}
theorem Sep.at {lo:Nat} {U:Fp} {i:Nat} {r:Asn} (hs:Sep lo w L U) (hi:L[i]?=some r):∃ f,r.sem w f∧∀ k,f k→lo≤k∧k < w.heap.size:=by
 obtain ⟨B,hp,_⟩:=eZ r hi
 obtain ⟨f,V,_,_,hf,hr,_⟩:=Sep.perm hp hs
 exact ⟨f,hr,hf⟩
theorem St.row_view {α:Type} [Cod α] {e:TypeId} {sv:Value} {xs:List α} (h:St w0 N F L a w) (i:Nat) (hi:L[i]?=some (Asn.row e sv xs)):View w sv xs:=by
 obtain ⟨U,hU⟩:=h.sep
 obtain ⟨f,⟨hr,_⟩,_⟩:=hU.at hi
 exact ic hr
theorem St.weak {F':List (Nat×Value)} (h:St w0 N F L a w) (hF:∀ t v,look F' t=some v→look F t=some v):St w0 N F' L a w :=
 ⟨h.size,h.defers,fun t v hv=>h.regs t v (hF t v hv),h.bel,h.sep⟩
theorem jj {α:Type}:∀ {L:List α} {i:Nat} (hi:i < L.length),L.Perm (L[i]::L.eraseIdx i)
 | [],_,h=>by simp at h
 | x::L,0,_=>.refl _
 | x::L,i+1,h=>((jj (L:=L) (i:=i) (by simpa using h)).cons x).trans (.swap _ _ _)
theorem St.drop (h:St w0 N F L a w) (i:Nat):St w0 N F (L.eraseIdx i) a w:=by
 obtain ⟨U,hU⟩:=h.sep
 refine ⟨h.size,h.defers,h.regs,h.bel,?_⟩
 by_cases hi:i < L.length
 · have hp:=jj hi
   obtain ⟨V,W,_,hB,_⟩:=(Sep.perm hp hU).split (A:=[L[i]])
   exact ⟨W,hB⟩
 · rw [List.eraseIdx_of_length_le (by omega)]; exact ⟨U,hU⟩
theorem St.take (h:St w0 N F L a w) (i:Nat):St w0 N F (L.take i) a w:=by
 obtain ⟨U,hU⟩:=h.sep
 rw [← List.take_append_drop i L] at hU
 obtain ⟨V,W,hA,_⟩:=hU.split
 exact ⟨h.size,h.defers,h.regs,h.bel,V,hA⟩
theorem St.perm {L':List Asn} (h:St w0 N F L a w) (p:L.Perm L'):St w0 N F L' a w:=by
 obtain ⟨U,hU⟩:=h.sep
 exact ⟨h.size,h.defers,h.regs,h.bel,U,hU.perm p⟩
theorem dP {v:Value} (h:∀ (o:Oper) (a:Act) (w:World),o.op=op→Agr F a→(execOp a.eval o).run P w=.ok (.value v) w):Rd P w0 F [] op v :=
 fun o a w _ ho ha _ _=>h o a w ho ha
theorem ay {x:Operand} {v:Value} (hx:ev F x=some v):Rd P w0 F [] (.move x) v:=dP fun o a w ho ha=>by simp [execOp,ho,ha x v hx]
theorem aA {x:Operand} {v:Value} (hx:ev F x=some v):Rd P w0 F [] (.assign x) v:=dP fun o a w ho ha=>by simp [execOp,ho,ha x v hx]
theorem sT {c x y:Operand} {b:Bool} {v:Value} (hc:ev F c=some (.bool b)) (hx:b=true→ev F x=some v) (hy:b=false→ev F y=some v):Rd P w0 F [] (.pick c x y) v :=
 dP fun o a w ho ha=>by
  cases b
  · simp [execOp,ho,ha c _ hc,asBool,ha y v (hy rfl)]
  · simp [execOp,ho,ha c _ hc,asBool,ha x v (hx rfl)]
theorem r_or {c y:Operand} {b b':Bool} (hc:ev F c=some (.bool b)) (hy:b=false→ev F y=some (.bool b')):Rd P w0 F [] (.pick c (.const (.bool true)) y) (.bool (b || b')) :=
 sT hc (fun e=>by subst e; rfl) (fun e=>by subst e; simpa using hy rfl)
theorem r_and {c x:Operand} {b b':Bool} (hc:ev F c=some (.bool b)) (hx:b=true→ev F x=some (.bool b')):Rd P w0 F [] (.pick c x (.const (.bool false))) (.bool (b && b')) :=
 sT hc (fun e=>by subst e; simpa using hx rfl) (fun e=>by subst e; rfl)
theorem cY {x:Operand} {vs:List Value} {i:Nat} {v:Value} (hx:ev F x=some (.tuple vs.toArray)) (hi:vs[i]?=some v):Rd P w0 F [] (.extract x i) v :=
 dP fun o a w ho ha=>by simp [execOp,ho,ha x _ hx,Instr.extract,hi]
theorem r_not {x:Operand} {t:TypeId} {b:Bool} (hx:ev F x=some (.bool b)):Rd P w0 F [] (.unOp .not t x) (.bool (!b)) :=
 dP fun o a w ho ha=>by simp [execOp,ho,ha x _ hx,Op.unary]
theorem r_neg {x:Operand} {t:TypeId} {k:IntKind} {n r:Int} (hx:ev F x=some (.int k n)) (hr:k.wrap (-n)=r):Rd P w0 F [] (.unOp .neg t x) (.int k r) :=
 dP fun o a w ho ha=>by simp [execOp,ho,ha x _ hx,Op.unary,Op.intArith,hr]
theorem qN {f:Fn} {cap:Array Operand} {vs:List Value} (hx:evs F cap.toList=some vs):Rd P w0 F [] (.makeFunc f #[] cap) (.func f #[] vs.toArray) :=
 dP fun o a w ho ha=>by
  have h1:cap.map a.eval=vs.toArray:=by
   apply Array.ext'
   simp [Array.toList_map,ha.evs hx]
  simp [execOp,ho,Instr.makeFunc,h1]
theorem uq {f:Fn} {x:Operand} {v:Value} (hx:ev F x=some v):Rd P w0 F [] (.makeFunc f #[x] #[]) (.func f #[v] #[]) :=
 dP fun o a w ho ha=>by simp [execOp,ho,Instr.makeFunc,ha x _ hx]
theorem yj {t:TypeId} {td:TypeDesc} {x:Operand} {v:Value} (hu:∀ w,(underlying t).run P w=.ok td w) (ht:(match td with | .interface _=>false | _=>true)=true) (hx:ev F x=some v) :
 Rd P w0 F [] (.makeInterface t x) (.iface t v) :=
 dP fun o a w ho ha=>by
  simp only [execOp,ho,Instr.makeInterface,Sem.run_bind,hu w,Result.andThen_ok,ha x _ hx]
  cases td <;> first | rfl | (simp at ht)
section
variable {k:IntKind} {m n r:Int} {x y:Operand} {t tt:TypeId} (hx:ev F x=some (.int k m)) (hy:ev F y=some (.int k n))
include hx hy
theorem eV (hr:k.wrap (m+n)=r):Rd P w0 F [] (.binOp .add t x y tt) (.int k r):=dP fun o a w ho ha=>by simp [execOp,ho,ha x _ hx,ha y _ hy,eqGuard_add,binOp_add,Op.intArith,hr]
theorem fv (hr:k.wrap (m - n)=r):Rd P w0 F [] (.binOp .sub t x y tt) (.int k r):=dP fun o a w ho ha=>by simp [execOp,ho,ha x _ hx,ha y _ hy,eqGuard_sub,binOp_sub,Op.intArith,hr]
theorem lD (hr:k.wrap (m*n)=r):Rd P w0 F [] (.binOp .mul t x y tt) (.int k r):=dP fun o a w ho ha=>by simp [execOp,ho,ha x _ hx,ha y _ hy,eqGuard_mul,binOp_mul,Op.intArith,hr]
theorem oV (h0:n≠0) (hr:k.wrap (m.tdiv n)=r):Rd P w0 F [] (.binOp .quo t x y tt) (.int k r):=dP fun o a w ho ha=>by simp [execOp,ho,ha x _ hx,ha y _ hy,eqGuard_quo,binOp_quo,Op.intDiv,hr,h0]
theorem ru (h0:n≠0) (hr:m.tmod n=r):Rd P w0 F [] (.binOp .rem t x y tt) (.int k r):=dP fun o a w ho ha=>by simp [execOp,ho,ha x _ hx,ha y _ hy,eqGuard_rem,binOp_rem,Op.intDiv,hr,h0]
theorem uo (hr:bits .or k m n=r):Rd P w0 F [] (.binOp .or t x y tt) (.int k r):=dP fun o a w ho ha=>by simp [execOp,ho,ha x _ hx,ha y _ hy,eqGuard_or,binOp_or,intBits_or,hr]
theorem ur:Rd P w0 F [] (.binOp .eql t x y tt) (.bool (m == n)):=dP fun o a w ho ha=>by simp [execOp,ho,ha x _ hx,ha y _ hy,eqGuard_at_int,binOp_eql]
theorem r_neq:Rd P w0 F [] (.binOp .neq t x y tt) (.bool (m != n)):=dP fun o a w ho ha=>by simp [execOp,ho,ha x _ hx,ha y _ hy,eqGuard_at_int,binOp_neq]
theorem jT:Rd P w0 F [] (.binOp .lss t x y tt) (.bool (decide (m < n))):=dP fun o a w ho ha=>by simp [execOp,ho,ha x _ hx,ha y _ hy,eqGuard_lss,binOp_lss]
theorem r_leq:Rd P w0 F [] (.binOp .leq t x y tt) (.bool (decide (m≤n))):=dP fun o a w ho ha=>by simp [execOp,ho,ha x _ hx,ha y _ hy,eqGuard_leq,binOp_leq]
theorem r_gtr:Rd P w0 F [] (.binOp .gtr t x y tt) (.bool (decide (m>n))):=dP fun o a w ho ha=>by simp [execOp,ho,ha x _ hx,ha y _ hy,eqGuard_gtr,binOp_gtr]
theorem ym:Rd P w0 F [] (.binOp .geq t x y tt) (.bool (decide (m≥n))):=dP fun o a w ho ha=>by simp [execOp,ho,ha x _ hx,ha y _ hy,eqGuard_geq,binOp_geq]
end
theorem sS {k yk:IntKind} {m n r:Int} {x y:Operand} {t tt:TypeId} (hx:ev F x=some (.int k m)) (hy:ev F y=some (.int yk n)) (h0:0≤n) (h1:n≤k.bits) (hr:k.wrap (m*2 ^ n.toNat)=r) :
 Rd P w0 F [] (.binOp .shl t x y tt) (.int k r):=dP fun o a w ho ha=>by simp [execOp,ho,ha x _ hx,ha y _ hy,eqGuard_shl,binOp_shl,shift_shl k yk m n h0 h1,hr]
theorem ng {k yk:IntKind} {m n r:Int} {x y:Operand} {t tt:TypeId} (hx:ev F x=some (.int k m)) (hy:ev F y=some (.int yk n)) (h0:0≤n) (h1:n≤k.bits) (hr:m / 2 ^ n.toNat=r) :
 Rd P w0 F [] (.binOp .shr t x y tt) (.int k r):=dP fun o a w ho ha=>by simp [execOp,ho,ha x _ hx,ha y _ hy,eqGuard_shr,binOp_shr,shift_shr k yk m n h0 h1,hr]
theorem sP (op:BinOp) (t:TypeId) (x y:Bool) (hu:P.underlying t=some .bool) (w:World) (he:op=.eql∨op=.neq) :
 (binOp op t (.bool x) (.bool y)).run P w=.ok (.bool (if op=.eql then x == y else x != y)) w:=by
 rcases he with rfl | rfl <;> simp [binOp,Op.equal,Op.maxDepth,run_equalIn_bool' w 9999 t x y hu,bne]
theorem yo {x y:Operand} {t tt:TypeId} {b c:Bool} (hu:P.underlying t=some .bool) (hx:ev F x=some (.bool b)) (hy:ev F y=some (.bool c)):Rd P w0 F [] (.binOp .eql t x y tt) (.bool (b == c)) :=
 dP fun o a w ho ha=>by simp [execOp,ho,ha x _ hx,ha y _ hy,eqGuard_at_bool,sP .eql t b c hu w (.inl rfl)]
theorem sU {x y:Operand} {t tt:TypeId} {b c:Bool} (hu:P.underlying t=some .bool) (hx:ev F x=some (.bool b)) (hy:ev F y=some (.bool c)):Rd P w0 F [] (.binOp .neq t x y tt) (.bool (b != c)) :=
 dP fun o a w ho ha=>by simp [execOp,ho,ha x _ hx,ha y _ hy,eqGuard_at_bool,sP .neq t b c hu w (.inr rfl)]
theorem pk (a b:ByteArray):(a.toList == b.toList)=decide (a=b):=by
 by_cases h:a=b
 · simp [h]
 · have:a.toList≠b.toList:=fun e=>h (by
    rw [ByteArray.toList_eq,ByteArray.toList_eq] at e
    obtain ⟨⟨x⟩⟩:=a
    obtain ⟨⟨y⟩⟩:=b
    simp at e
    rw [e])
   simp [h,this]
theorem r_eqlS {x y:Operand} {t tt:TypeId} {b c:ByteArray} (hx:ev F x=some (.string b)) (hy:ev F y=some (.string c)):Rd P w0 F [] (.binOp .eql t x y tt) (.bool (decide (b=c))) :=
 dP fun o a w ho ha=>by simp [execOp,ho,ha x _ hx,ha y _ hy,eqGuard_at_string,binOp,Op.stringOp,pk]
theorem r_neqS {x y:Operand} {t tt:TypeId} {b c:ByteArray} (hx:ev F x=some (.string b)) (hy:ev F y=some (.string c)):Rd P w0 F [] (.binOp .neq t x y tt) (.bool (!decide (b=c))) :=
 dP fun o a w ho ha=>by simp [execOp,ho,ha x _ hx,ha y _ hy,eqGuard_at_string,binOp,Op.stringOp,pk]
def EqP (P:Program) (t:TypeId) {α:Type} [DecidableEq α] (val:α→Value):Prop :=
 ∀ (x y:α) (ox oy:Operand) (w:World),(eqGuard .eql t ox oy (val x) (val y)).run P w=.ok () w∧(eqGuard .neq t ox oy (val x) (val y)).run P w=.ok () w ∧
  (binOp .eql t (val x) (val y)).run P w=.ok (.bool (decide (x=y))) w∧(binOp .neq t (val x) (val y)).run P w=.ok (.bool (!decide (x=y))) w
theorem r_eqlT {α:Type} [DecidableEq α] {val:α→Value} {x y:Operand} {t tt:TypeId} {b c:α} (he:EqP P t val) (hx:ev F x=some (val b)) (hy:ev F y=some (val c)):Rd P w0 F [] (.binOp .eql t x y tt) (.bool (decide (b=c))) :=
 dP fun o a w ho ha=>by
  obtain ⟨h1,_,h3,_⟩:=he b c x y w
  simp [execOp,ho,ha x _ hx,ha y _ hy,h1,h3]
theorem r_neqT {α:Type} [DecidableEq α] {val:α→Value} {x y:Operand} {t tt:TypeId} {b c:α} (he:EqP P t val) (hx:ev F x=some (val b)) (hy:ev F y=some (val c)):Rd P w0 F [] (.binOp .neq t x y tt) (.bool (!decide (b=c))) :=
 dP fun o a w ho ha=>by
  obtain ⟨_,h2,_,h4⟩:=he b c x y w
  simp [execOp,ho,ha x _ hx,ha y _ hy,h2,h4]
theorem a8 {src dst:TypeId} {k k':IntKind} {x:Operand} {n r:Int} {td:TypeDesc} (hs:∀ w,(underlying src).run P w=.ok td w) (hd:∀ w,(underlying dst).run P w=.ok (.int k') w) (hx:ev F x=some (.int k n)) (hr:k'.wrap n=r) :
 Rd P w0 F [] (.convert src dst x) (.int k' r) :=
 dP fun o a w ho ha=>by simp [execOp,ho,ha x _ hx,convert,hs w,hd w,Conv.intToInt,hr]
theorem lM {x:Operand} {t:TypeId} {s:ByteArray} (hu:∀ w,(underlying t).run P w=.ok .string w) (hx:ev F x=some (.string s)) :
 Rd P w0 F [] (.call ⟨.builtin .len,#[x],#[t]⟩) (.int .i64 s.size) :=
 dP fun o a w ho ha=>by simp [execOp,ho,resolve,invoke,builtin,Builtin.len_,ha x _ hx,hu w,goInt]
theorem g9 {x:Operand} {t e:TypeId} {sv:Value} {n:Nat} (hu:∀ w,(underlying t).run P w=.ok (.slice e) w) (hx:ev F x=some sv) (hs:SL sv n) :
 Rd P w0 F [] (.call ⟨.builtin .len,#[x],#[t]⟩) (.int .i64 n):=by
 obtain ⟨b,c,rfl⟩:=hs
 exact dP fun o a w ho ha=>by simp [execOp,ho,resolve,invoke,builtin,Builtin.len_,ha x _ hx,hu w,goInt]
theorem nh {x ix:Operand} {t:TypeId} {s:ByteArray} {k:IntKind} {i:Nat} (hu:∀ w,(underlying t).run P w=.ok .string w) (hx:ev F x=some (.string s)) (hi:ev F ix=some (.int k (i:Int))) (h:i < s.size) :
 Rd P w0 F [] (.index t x ix) (.int .u8 (s[i]'h).toNat) :=
 dP fun o a w ho ha=>by
  simp [execOp,ho,Instr.index,asIntOf,ha x _ hx,ha ix _ hi,hu w,h]
theorem pI {s:TypeId} {fs:Array Field} {f:Nat} {fld:Field} {n:Nat} (hu:∀ w,(underlying s).run P w=.ok (.struct fs) w) (hf:fs[f]?=some fld) (hz:∀ w,(sizeOf fld.type).run P w=.ok n w) (hn:n≠0) (b k:Nat) (w:World) :
 (Instr.fieldAt s (ptr b k) f).run P w=.ok (ptr b (k+fld.offset)) w:=by
 simp [Instr.fieldAt,ptr,hu w,hf,Instr.sureAddr,fieldPlace,hz w,hn,Addr.add_lit]
theorem r_fa {s:TypeId} {fs:Array Field} {f:Nat} {fld:Field} {n b k k':Nat} {x:Operand} (hu:∀ w,(underlying s).run P w=.ok (.struct fs) w) (hf:fs[f]?=some fld) (hz:∀ w,(sizeOf fld.type).run P w=.ok n w) (hn:n≠0)
 (hx:ev F x=some (ptr b k)) (hk:k+fld.offset=k'):Rd P w0 F [] (.fieldAddr s x f) (ptr b k') :=
 dP fun o a w ho ha=>by simp [execOp,ho,ha x _ hx,pI hu hf hz hn,hk]
theorem r_faS {s:TypeId} {fs:Array Field} {f:Nat} {fld:Field} {n m k k':Nat} {sv:Value} {x:Operand} (hu:∀ w,(underlying s).run P w=.ok (.struct fs) w) (hf:fs[f]?=some fld) (hz:∀ w,(sizeOf fld.type).run P w=.ok n w) (hn:n≠0)
 (hs:NN sv m) (hx:ev F x=some (sel sv k)) (hk:k+fld.offset=k'):Rd P w0 F [] (.fieldAddr s x f) (sel sv k'):=by
 obtain ⟨g,off,c,rfl⟩:=hs
 exact dP fun o a w ho ha=>by
  have:=ha x _ hx
  simp only [sel] at this ⊢
  simp [execOp,ho,this,pI hu hf hz hn,← hk,Nat.add_assoc]
theorem iT {t e:TypeId} {x ix:Operand} {sv:Value} {n i m:Nat} {k:IntKind} (hu:∀ w,(underlying t).run P w=.ok (.slice e) w) (hz:∀ w,(sizeOf e).run P w=.ok m w) (hx:ev F x=some sv) (hi:ev F ix=some (.int k (i:Int)))
 (hs:NN sv n) (h:i < n):Rd P w0 F [] (.indexAddr t x ix) (sel sv (i*m)):=by
 obtain ⟨g,off,c,rfl⟩:=hs
 exact dP fun o a w ho ha=>by
  have h':(i:Int) < (n:Int):=by omega
  simp [execOp,ho,ha x _ hx,ha ix _ hi,Instr.indexAt,asIntOf,hu w,hz w,sel,ptr,h,Addr.add_lit]
theorem r_iaA {t e:TypeId} {x ix:Operand} {b o0 n i m:Nat} {k:IntKind} (hu:∀ w,(underlying t).run P w=.ok (.array n e) w) (hz:∀ w,(sizeOf e).run P w=.ok m w) (hx:ev F x=some (ptr b o0)) (hi:ev F ix=some (.int k (i:Int)))
 (h:i < n):Rd P w0 F [] (.indexAddr t x ix) (ptr b (o0+i*m)) :=
 dP fun o a w ho ha=>by
  simp [execOp,ho,ha x _ hx,ha ix _ hi,Instr.indexAt,asIntOf,hu w,hz w,ptr,h,Addr.add_lit,Instr.sureAddr]
def mkv (agg:Bool) (cs:List Value):Value:=bif agg then .agg cs.toArray else cs.headD undef
theorem kZ {t:TypeId} {agg:Bool} {n:Nat} {cs:List Value} {g o:Nat} {w:World} (ht:∀ w,(isAgg t).run P w=.ok agg w) (hz:∀ w,(sizeOf t).run P w=.ok n w) (hl:cs.length=n) (h1:0 < n)
 (h:∀ j v,cs[j]?=some v→w.cell? ⟨g,o+j,none⟩=some v):(loadVar t ⟨g,o,none⟩).run P w=.ok (mkv agg cs) w:=by
 cases agg with
 | true =>
  have:=run_loadCells_list (P:=P) w ⟨g,o,none⟩ cs (fun j v hj=>by rw [Addr.add_lit]; exact h j v hj)
  rw [hl] at this
  simp [loadVar,ht w,hz w,this,mkv]
 | false =>
  match cs,hl with
  | c::cs,_ =>
   have:=h 0 c rfl
   simp only [Nat.add_zero] at this
   simp [loadVar,ht w,this,mkv]
  | [],hl=>simp at hl; omega
theorem qm {b:Nat} {cs:List Value} {e:TypeId} {w:World} {fr:Nat×Nat} (h:w.heap[b]?=some (.cells cs.toArray e fr)) (j:Nat):w.cell? ⟨b,j,none⟩=cs[j]?:=by
 simp [World.cell?,h]
theorem o9 {cs:List Value} {k n j:Nat} {v:Value} (h:((cs.drop k).take n)[j]?=some v):cs[k+j]?=some v:=by
 rw [List.getElem?_take] at h
 split at h
 · rwa [List.getElem?_drop] at h
 · simp at h
theorem kt {t e:TypeId} {agg:Bool} {n b k:Nat} {cs:List Value} {x:Operand} {v:Value} (ht:∀ w,(isAgg t).run P w=.ok agg w) (hz:∀ w,(sizeOf t).run P w=.ok n w) (hx:ev F x=some (ptr b k))
 (hn:Nat.blt 0 n=true) (hl:((cs.drop k).take n).length=n) (hv:mkv agg ((cs.drop k).take n)=v):Rd P w0 F [Asn.blk b cs e] (.load t x) v:=by
 intro o a w U ho ha hb hs
 obtain ⟨f,V,_,_,_,⟨_,hh⟩,_⟩:=hs
 have:=kZ (P:=P) (g:=b) (o:=k) (w:=w) ht hz hl (Nat.le_of_ble_eq_true hn) (fun j v hj=>by rw [qm hh]; exact o9 hj)
 simp [execOp,ho,ha x _ hx,Instr.loadAt,Instr.sureAddr,ptr,this,hv]
theorem wq {α:Type} [Cod α] {w:World} {sv:Value} {xs:List α} (h:View w sv xs) {i:Nat} {u:α} (hi:xs[i]?=some u) :
 ∃ g off c,sv=.slice (some ⟨g,off,none⟩) xs.length c∧∀ j v,(Cod.enc u)[j]?=some v→w.cell? ⟨g,off+(i*Cod.n α+j),none⟩=some v:=by
 have hlt:i < xs.length:=by
  rcases Nat.lt_or_ge i xs.length with h | h
  · exact h
  · simp [List.getElem?_eq_none h] at hi
 obtain ⟨_,⟨_,rfl⟩ | ⟨g,off,cap,cur,e,fr,h1,h2,h3⟩⟩:=h
 · simp at hi
 · refine ⟨g,off,cap,h1,fun j v hj=>?_⟩
   have hjn:j < Cod.n α:=by
    rcases Nat.lt_or_ge j (Cod.n α) with h | h
    · exact h
    · rw [List.getElem?_eq_none (by rw [Cod.len]; exact h)] at hj; simp at hj
   have hb:i*Cod.n α+j < (flat xs).length:=by
    rw [bV]
    calc i*Cod.n α+j < i*Cod.n α+Cod.n α:=by omega
     _=(i+1)*Cod.n α:=by rw [Nat.add_mul,Nat.one_mul]
     _≤xs.length*Cod.n α:=Nat.mul_le_mul_right _ hlt
   have:=h3 _ hb
   rw [rV hi hjn,hj] at this
   simp [World.cell?,h2,this]
theorem x9 {α:Type} [Cod α] {t:TypeId} {agg:Bool} {n k q:Nat} {sv:Value} {xs:List α} {i:Nat} {u:α} {x:Operand} {v:Value} (ht:∀ w,(isAgg t).run P w=.ok agg w) (hz:∀ w,(sizeOf t).run P w=.ok n w)
 (hx:ev F x=some (sel sv q)) (hi:xs[i]?=some u) (hq:i*Cod.n α+k=q) (hn:Nat.blt 0 n=true) (hl:(((Cod.enc u).drop k).take n).length=n) (hv:mkv agg (((Cod.enc u).drop k).take n)=v)
 {o:Oper} (ho:o.op=.load t x) (ha:Agr F a) (hw:View w sv xs):(execOp a.eval o).run P w=.ok (.value v) w:=by
 obtain ⟨g,off,c,rfl,hc⟩:=wq hw hi
 have hx':=ha x _ hx
 simp only [sel,← hq] at hx'
 have:=kZ (P:=P) (g:=g) (o:=off+(i*Cod.n α+k)) (w:=w) ht hz hl (Nat.le_of_ble_eq_true hn) (fun j v hj=>by
  rw [show off+(i*Cod.n α+k)+j=off+(i*Cod.n α+(k+j)) by omega]; exact hc _ _ (o9 hj))
 simp [execOp,ho,hx',Instr.loadAt,Instr.sureAddr,ptr,this,hv]
theorem oW {α:Type} [Cod α] {t:TypeId} {agg:Bool} {n k q:Nat} {sv:Value} {xs:List α} {i:Nat} {u:α} {x:Operand} {v:Value} (ht:∀ w,(isAgg t).run P w=.ok agg w) (hz:∀ w,(sizeOf t).run P w=.ok n w)
 (hw:View w0 sv xs) (hi:xs[i]?=some u) (hx:ev F x=some (sel sv q)) (hq:i*Cod.n α+k=q) (hn:Nat.blt 0 n=true) (hl:(((Cod.enc u).drop k).take n).length=n) (hv:mkv agg (((Cod.enc u).drop k).take n)=v) :
 Rd P w0 F [] (.load t x) v:=fun _ _ _ _ ho ha hb _=>x9 ht hz hx hi hq hn hl hv ho ha (hw.below hb)
theorem iM {α:Type} [Cod α] {t e:TypeId} {agg:Bool} {n k q:Nat} {sv:Value} {xs:List α} {i:Nat} {u:α} {x:Operand} {v:Value} (ht:∀ w,(isAgg t).run P w=.ok agg w) (hz:∀ w,(sizeOf t).run P w=.ok n w)
 (hi:xs[i]?=some u) (hx:ev F x=some (sel sv q)) (hq:i*Cod.n α+k=q) (hn:Nat.blt 0 n=true) (hl:(((Cod.enc u).drop k).take n).length=n) (hv:mkv agg (((Cod.enc u).drop k).take n)=v) :
 Rd P w0 F [Asn.row e sv xs] (.load t x) v:=fun _ _ _ _ ho ha _ hs=>by
 obtain ⟨f,V,_,_,_,⟨hr,_⟩,_⟩:=hs
 exact x9 ht hz hx hi hq hn hl hv ho ha (ic hr)
end
end Go.Sx
namespace Go.Sx
open Go Go.RowKit
section
variable {P:Program} {w0:World} {N:Nat} {F:List (Nat×Value)} {L:List Asn} {a:Act} {w:World} {ops:Array Oper} {Q:Exit→Act→World→Prop} {rest:List Oper}
 {d:Nat} {op:Op} {ty:TypeId} {pos:String} {aft:Array Edge}
theorem jl {w0:World} (w:World) (o:Obj):Moves (w0:=w0) w (w.alloc o) (fun _=>False) (fun k=>k=w.heap.size) :=
 ⟨rfl,rfl,rfl,fun n hn _=>by simp; omega,fun k hk _=>Below.heap_alloc _ _ _ hk,fun k hk=>.inr (by simp only [hk]; exact Nat.le_refl _),fun h=>h⟩
theorem Moves.weak {w0 w w':World} {U U' V:Fp} (h:Moves (w0:=w0) w w' U U') (hV:∀ k,U k→V k):Moves (w0:=w0) w w' V U' :=
 ⟨h.os,h.tape,h.output,fun n hn hv=>h.size n hn fun k hk=>hv k (hV k hk),fun k hk hv=>h.block k hk fun hu=>hv (hV k hu),fun k hk=>(h.new k hk).imp (hV k) id,h.drawn⟩
theorem m9 {lo:Nat} (hlo:lo≤w.heap.size) (cs:List Value) (e:TypeId):Sep lo (w.alloc (.cells cs.toArray e)) [Asn.blk w.heap.size cs e] (fun k=>k=w.heap.size) :=
 ⟨fun k=>k=w.heap.size,fun _=>False,fun k=>by simp,fun _ _=>id,fun k hk=>by simp only [hk,World.size_alloc]; omega,⟨fun _=>Iff.rfl,by show (w.heap.push _)[w.heap.size]?=_; simp⟩,fun _=>id⟩
def bR:Value→Nat | .pointer (some a)=>a.block | _=>0
theorem s_box {x:Operand} {v:Value} {t:TypeId} {cs:List Value} (hx:ev F x=some v) (hc:v.cells.toList=cs) :
 Step P w0 F [] (.box t x) (fun u=>∃ b,u=ptr b 0) (fun u=>[Asn.blk (bR u) cs t]):=by
 intro o a w U K Q ho ha hb hs k
 unfold Oper.wp
 have hr:(execOp a.eval o).run P w=.ok (.value (ptr w.heap.size 0)) (w.alloc (.cells cs.toArray t)):=by
  simp [execOp,ho,ha x v hx,Instr.box,newVar,newRow,ptr,← hc]
 rw [hr]
 exact k _ _ (fun k=>k=w.heap.size) ⟨_,rfl⟩ ((jl w _).weak fun _ h=>h.elim) (m9 hb.size cs t)
theorem gO {t:TypeId} {z:Value} {cs:List Value} (hz:∀ w,(zeroValue t).run P w=.ok z w) (hc:z.cells.toList=cs) :
 Step P w0 F [] (.alloc t) (fun u=>∃ b,u=ptr b 0) (fun u=>[Asn.blk (bR u) cs t]):=by
 intro o a w U K Q ho ha hb hs k
 unfold Oper.wp
 have hr:(execOp a.eval o).run P w=.ok (.value (ptr w.heap.size 0)) (w.alloc (.cells cs.toArray t)):=by
  simp [execOp,ho,Instr.alloc,hz w,newVar,newRow,ptr,← hc]
 rw [hr]
 exact k _ _ (fun k=>k=w.heap.size) ⟨_,rfl⟩ ((jl w _).weak fun _ h=>h.elim) (m9 hb.size cs t)
theorem bx (h:St w0 N F L a w) {x:Operand} {v:Value} {t:TypeId} (cs:List Value) (hx:ev F x=some v) (hc:v.cells.toList=cs) (hd:Nat.blt d N=true)
 (k:∀ b a w,St w0 N ((d,ptr b 0)::F) (Asn.blk b cs t::L) a w→wpList P ops Q rest a w):wpList P ops Q (⟨some d,.box t x,ty,pos,aft,none⟩::rest) a w :=
 nw h (s_box hx hc) hd fun v a w ⟨b,hv⟩ h=>by subst hv; exact k b a w h
theorem al (h:St w0 N F L a w) {t:TypeId} {z:Value} (cs:List Value) (hz:∀ w,(zeroValue t).run P w=.ok z w) (hc:z.cells.toList=cs) (hd:Nat.blt d N=true)
 (k:∀ b a w,St w0 N ((d,ptr b 0)::F) (Asn.blk b cs t::L) a w→wpList P ops Q rest a w):wpList P ops Q (⟨some d,.alloc t,ty,pos,aft,none⟩::rest) a w :=
 nw h (gO hz hc) hd fun v a w ⟨b,hv⟩ h=>by subst hv; exact k b a w h
theorem lW {g:Nat} {cs:Array Value} {U:Fp} (hU:U g):Moves (w0:=w0) w (w.setRow g cs) U U :=
 ⟨rfl,rfl,rfl,fun n hn _=>by simpa using hn,fun k _ hk=>setRow_other w g k cs (fun e=>hk (e ▸ hU)),fun _=>.inl,fun h=>h⟩
def spl (cs:List Value) (k:Nat) (us:List Value):List Value:=cs.take k++us++cs.drop (k+us.length)
theorem oI {t:TypeId} {v:Value} {n g o:Nat} {cs:List Value} {e:TypeId} (hz:∀ w,(sizeOf t).run P w=.ok n w) (hn:v.cells.toList.length=n) (h1:∀ c∈v.cells.toList,c.oneCell'=true)
 (hg:w.heap[g]?=some (.cells cs.toArray e (0,0))) (hf:o+n≤cs.length) :
 (storeVar t ⟨g,o,none⟩ v).run P w=.ok () (w.setRow g (spl cs o v.cells.toList).toArray):=by
 have:=run_storeCells_at (P:=P) g o e v.cells.toList 0 cs.toArray w hg (by simpa [hn] using hf) h1
 simp at hn
 simp [storeVar,hz w,hn,this,spl]
theorem qK {t e:TypeId} {x y:Operand} {b k n:Nat} {v:Value} {cs us cs':List Value} (hz:∀ w,(sizeOf t).run P w=.ok n w) (hx:ev F x=some (ptr b k)) (hy:ev F y=some v) (hc:v.cells.toList=us) (hn:us.length=n)
 (h1:us.all Value.oneCell'=true) (hf:Nat.ble (k+n) cs.length=true) (hr:spl cs k us=cs'):Step P w0 F [Asn.blk b cs e] (.store t x y) (·=undef) (fun _=>[Asn.blk b cs' e]):=by
 intro o a w U K Q ho ha hb hs k'
 obtain ⟨f,V,hU,hd,hlt,⟨hf1,hh⟩,hV⟩:=hs
 have hrun:=oI (P:=P) (w:=w) (t:=t) (v:=v) (g:=b) (o:=k) (e:=e) hz (by rw [hc,hn]) (by rw [hc]; exact List.all_eq_true.1 h1) hh (Nat.le_of_ble_eq_true hf)
 have hrun':(execOp a.eval o).run P w=.ok .skip (w.setRow b (spl cs k v.cells.toList).toArray):=by
  simp [execOp,ho,ha x _ hx,ha y _ hy,Instr.storeAt,Instr.sureAddr,ptr,hrun]
 unfold Oper.wp
 rw [hrun',hc,hr]
 refine k' undef _ U rfl (lW ((hU b).2 (.inl ((hf1 b).2 rfl)))) ⟨f,V,hU,hd,fun k hk=>by simpa using hlt k hk,⟨hf1,setRow_heap w b _ _ e _ hh⟩,hV⟩
theorem st (h:St w0 N F L a w) (i:Nat) {t e:TypeId} {x y:Operand} {b k n:Nat} {v:Value} {cs us:List Value} (cs':List Value) (hi:L[i]?=some (Asn.blk b cs e)) (hz:∀ w,(sizeOf t).run P w=.ok n w) (hx:ev F x=some (ptr b k)) (hy:ev F y=some v)
 (hc:v.cells.toList=us) (hn:us.length=n) (h1:us.all Value.oneCell'=true) (hf:Nat.ble (k+n) cs.length=true) (hr:spl cs k us=cs')
 (c:∀ a w,St w0 N F (L.set i (Asn.blk b cs' e)) a w→wpList P ops Q rest a w):wpList P ops Q (⟨none,.store t x y,ty,pos,aft,none⟩::rest) a w :=
 up h i hi (qK hz hx hy hc hn h1 hf hr) c
theorem g5 {α:Type} [Cod α] {t e:TypeId} {x y:Operand} {k n q:Nat} {v:Value} {us:List Value} {sv:Value} {xs:List α} {i:Nat} {u u':α} (hz:∀ w,(sizeOf t).run P w=.ok n w) (hi:xs[i]?=some u) (hx:ev F x=some (sel sv q))
 (hq:i*Cod.n α+k=q) (hy:ev F y=some v) (hc:v.cells.toList=us) (hn:us.length=n) (h1:us.all Value.oneCell'=true) (hf:Nat.ble (k+n) (Cod.n α)=true) (hr:spl (Cod.enc u) k us=Cod.enc u') :
 Step P w0 F [Asn.row e sv xs] (.store t x y) (·=undef) (fun _=>[Asn.row e sv (xs.set i u')]):=by
 intro o a w U K Q ho ha hb hs k'
 obtain ⟨f,V,hU,hd,hlt,⟨⟨hlen,hown⟩,hf1⟩,hV⟩:=hs
 have hil:i < xs.length:=by
  rcases Nat.lt_or_ge i xs.length with h | h
  · exact h
  · simp [List.getElem?_eq_none h] at hi
 have hf':=Nat.le_of_ble_eq_true hf
 rcases hown with ⟨_,h0⟩ | ⟨g,cap,cur,rfl,hbg,hh,hcap,hcm,hcs,htk⟩
 · omega
 · have hle:i*Cod.n α+Cod.n α≤xs.length*Cod.n α:=by
    rw [← Nat.succ_mul]; exact Nat.mul_le_mul_right _ hil
   have hle2:xs.length*Cod.n α≤cap*Cod.n α:=Nat.mul_le_mul_right _ hcap
   have hx':=ha x _ hx
   simp only [sel,Nat.zero_add] at hx'
   have hrun:=oI (P:=P) (w:=w) (t:=t) (v:=v) (g:=g) (o:=q) (e:=e) (cs:=cur.toList) hz (by rw [hc,hn]) (by rw [hc]; exact List.all_eq_true.1 h1) (by simpa using hh) (by simp only [Array.length_toList,hcs]; omega)
   have hrun':(execOp a.eval o).run P w=.ok .skip (w.setRow g (spl cur.toList q v.cells.toList).toArray):=by
    simp [execOp,ho,hx',ha y _ hy,Instr.storeAt,Instr.sureAddr,ptr,hrun]
   unfold Oper.wp
   rw [hrun',hc]
   have hlen2:(spl cur.toList q us).length=cap*Cod.n α:=by
    simp only [spl,List.length_append,List.length_take,List.length_drop,Array.length_toList,hn,hcs]; omega
   have hflat:(spl cur.toList q us).take (xs.length*Cod.n α)=flat (xs.set i u'):=by
    have e1:flat xs=flat (xs.take i)++Cod.enc u++flat (xs.drop (i+1)):=by
     have:xs=xs.take i++u::xs.drop (i+1):=by
      rw [List.getElem?_eq_getElem hil] at hi
      simp only [Option.some.injEq] at hi
      rw [← hi,List.getElem_cons_drop,List.take_append_drop]
     conv=>lhs; rw [this]
     simp [flat]
    have e2:flat (xs.set i u')=flat (xs.take i)++Cod.enc u'++flat (xs.drop (i+1)):=by
     rw [List.set_eq_take_append_cons_drop,if_pos hil]
     simp [flat]
    have l1:(flat (xs.take i)).length=i*Cod.n α:=by rw [bV,List.length_take]; congr 1; omega
    have lu:(Cod.enc u).length=Cod.n α:=Cod.len u
    have hcur:cur.toList=flat xs++cur.toList.drop (xs.length*Cod.n α):=by rw [← htk,List.take_append_drop]
    have hxl:(flat xs).length=xs.length*Cod.n α:=bV xs
    have step:spl cur.toList q us=flat (xs.set i u')++cur.toList.drop (xs.length*Cod.n α):=by
     have e3:cur.toList=flat (xs.take i)++Cod.enc u++flat (xs.drop (i+1))++cur.toList.drop (xs.length*Cod.n α):=by rw [← e1]; exact hcur
     generalize cur.toList.drop (xs.length*Cod.n α)=tail at e3
     rw [e2,← hr,e3]
     simp only [spl]
     have hq1:q=(flat (xs.take i)).length+k:=by rw [l1]; exact hq.symm
     rw [hq1]
     simp only [List.append_assoc]
     rw [List.take_length_add_append,show (flat (xs.take i)).length+k+us.length=(flat (xs.take i)).length+(k+us.length) by omega,List.drop_length_add_append,
      List.take_append_of_le_length (by rw [lu]; omega),List.drop_append_of_le_length (by rw [lu,hn]; omega)]
     simp only [List.append_assoc]
    rw [step,List.take_left' (by rw [bV,List.length_set])]
   refine k' undef _ U rfl (lW ((hU g).2 (.inl ((hf1 g).2 rfl)))) ⟨f,V,hU,hd,fun k hk=>by simpa using hlt k hk,
    ⟨⟨by rw [bV],.inr ⟨g,cap,(spl cur.toList q us).toArray,by simp,hbg,setRow_heap w g _ _ e _ hh,by simpa using hcap,hcm,by simpa using hlen2,by simpa using hflat⟩⟩,hf1⟩,hV⟩
def qB (place:Nat→Option (Nat×Nat)) (cells:List Value):List (Nat×Value)→Option (List Value)
 | []=>some cells
 | (i,v)::rest =>
  match place i with
  | none=>none
  | some (off,size)=>bif Nat.beq v.cells.toList.length size && Nat.ble (off+size) cells.length then qB place (spl cells off v.cells.toList) rest else none
theorem tE:∀ (us:List Value) (j k:Nat) (cs:Array Value),k+j+us.length≤cs.size →
 (us.zipIdx j).foldl (fun (cs:Array Value) (p:Value×Nat)=>cs.setIfInBounds (k+p.2) p.1) cs=(cs.toList.take (k+j)++us++cs.toList.drop (k+j+us.length)).toArray
 | [],j,k,cs,h=>by simp
 | u::us,j,k,cs,h=>by
  simp only [List.length_cons] at h
  simp only [List.zipIdx_cons,List.foldl_cons]
  rw [tE us (j+1) k (cs.setIfInBounds (k+j) u) (by simp; omega)]
  congr 1
  have hlt:k+j < cs.toList.length:=by simp; omega
  simp only [Array.toList_setIfInBounds,List.length_cons]
  rw [show k+(j+1)=k+j+1 by omega,List.take_add_one,List.getElem?_set_self hlt,Option.toList_some,List.take_set_of_le (by omega),List.drop_set_of_lt (by omega)]
  simp only [List.append_assoc,List.singleton_append]
  rw [show k+j+1+us.length=k+j+(us.length+1) by omega]
theorem ot (place:Nat→Option (Nat×Nat)):∀ (parts:List (Nat×Value)) (cells r:List Value),qB place cells parts=some r→Instr.fill place cells.toArray parts=some r.toArray
 | [],cells,r,h=>by simp [qB] at h; simp [Instr.fill,h]
 | (i,v)::rest,cells,r,h=>by
  simp only [qB] at h
  simp only [Instr.fill]
  cases hp:place i with
  | none=>simp [hp] at h
  | some q =>
   obtain ⟨off,size⟩:=q
   simp only [hp] at h ⊢
   cases hb:(Nat.beq v.cells.toList.length size && Nat.ble (off+size) cells.length) with
   | false=>rw [hb] at h; simp at h
   | true =>
    rw [hb] at h
    simp only [cond_true] at h
    obtain ⟨h1,h2⟩:=(Bool.and_eq_true _ _).mp hb
    have h1:=Nat.eq_of_beq_eq_true h1
    have h2:=Nat.le_of_ble_eq_true h2
    simp only [Array.length_toList] at h1
    have hc:(decide (v.cells.size≠size) || decide (off+v.cells.size>cells.toArray.size))=false:=by simp; omega
    rw [if_neg (by rw [hc]; simp)]
    have:=tE v.cells.toList 0 off cells.toArray (by simp; omega)
    have hz:v.cells.zipIdx.foldl (fun cs (x:Value×Nat)=>match x with | (c,j)=>cs.setIfInBounds (off+j) c) cells.toArray=(spl cells off v.cells.toList).toArray:=by
     rw [← Array.foldl_toList]
     simp only [Array.toList_zipIdx]
     rw [this]
     simp [spl]
    rw [hz]
    exact ot place rest _ _ h
def BuildF (P:Program) (t:TypeId) (zero:List Value) (places:List (Nat×Nat)):Prop :=
 ∀ (parts:List (Nat×Value)) (cells:List Value) (w:World),qB (fun i=>places[i]?) zero parts=some cells→(Instr.build t parts.toArray).run P w=.ok (.agg cells.toArray) w
theorem BuildF.of {t:TypeId} {z:Value} {zero:List Value} {fs:Array Field} {places:List (Nat×Nat)} (hz:∀ w,(zeroValue t).run P w=.ok z w) (hc:z.cells.toList=zero) (hu:∀ w,(underlying t).run P w=.ok (.struct fs) w)
 (hp:∀ w,(fs.mapM fun f=>do pure (f.offset,← sizeOf f.type):Sem (Array (Nat×Nat))).run P w=.ok places.toArray w):BuildF P t zero places:=by
 intro parts cells w h
 have:=ot _ parts zero cells h
 have hz':z.cells=zero.toArray:=by rw [← hc]
 simp only [Instr.build,Sem.run_bind,hz w,hu w,hp w,Result.andThen_ok,hz']
 have he:(fun x:Nat=>places.toArray[x]?)=(fun x:Nat=>places[x]?):=by funext x; simp
 rw [he,this]
 rfl
theorem bX {t:TypeId} {zero cells:List Value} {places:List (Nat×Nat)} {parts:List (Nat×Operand)} {vs:List Value} (hb:BuildF P t zero places) (hx:evs F (parts.map (·.2))=some vs)
 (hf:qB (fun i=>places[i]?) zero ((parts.map (·.1)).zip vs)=some cells) {v:Value} (hv:Value.agg cells.toArray=v):Rd P w0 F [] (.build t parts.toArray) v :=
 dP fun o a w ho ha=>by
  have h1:=ha.evs hx
  have h2:(parts.map fun p=>(p.1,a.eval p.2))=(parts.map (·.1)).zip vs:=by
   rw [← h1]
   clear hf hx h1 ho
   induction parts with
   | nil=>rfl
   | cons p ps ih=>simp [ih]
  have h3:=hb _ _ w hf
  rw [← h2] at h3
  simp only [execOp,ho,List.map_toArray]
  simp [h3,hv]
structure SlT (P:Program) (t e:TypeId) (n bytes:Nat) (zero:List Value):Prop where
 und:P.underlying t=some (.slice e)
 inf:∃ i z,P.info? e=some i∧i.zero=some z∧z.cells.toList=zero∧i.size=n∧i.bytes=bytes∧zero.length=n∧n≤4096∧bytes≤4096
theorem pu {α:Type} [Cod α] {sv:Value} {xs:List α} (h:View w sv xs) (hne:xs≠[]) :
 ∃ g off c,sv=.slice (some ⟨g,off,none⟩) xs.length c∧∀ j u,(flat xs)[j]?=some u→w.cell? ((⟨g,off,none⟩:Addr).add j)=some u:=by
 obtain ⟨_,⟨_,rfl⟩ | ⟨g,off,cap,cur,e,fr,h1,h2,h3⟩⟩:=h
 · exact (hne rfl).elim
 · refine ⟨g,off,cap,h1,fun j u hj=>?_⟩
   have hlt:j < (flat xs).length:=by
    rcases Nat.lt_or_ge j (flat xs).length with h | h
    · exact h
    · simp [List.getElem?_eq_none h] at hj
   simp [Addr.add_lit,World.cell?,h2,h3 j hlt,hj]
theorem oT {t e tt:TypeId} {i:TypeInfo} {z:Value} {size bytes n m c:Nat} {sv v':Value} {w':World} {xs news:List Value} {b:Addr} (hown:w.ownsRow 0 e size sv n xs) (ht:P.underlying t=some (.slice e))
 (hi:P.info? e=some i) (hz:i.zero=some z) (hsz:i.size=size) (hby:i.bytes=bytes) (hr:(Builtin.append_ #[t,t] tt #[sv,.slice (some b) m c]).run P w=.ok v' w') (hl:news.length=m*size)
 (hnews:∀ j u,news[j]?=some u→w.cell? (b.add j)=some u) (h1:∀ u∈news,u.oneCell'=true) (hlen:n+m≤34359738368) (hb:bytes≤4096):∀ k,v'.ownBlock=some k→sv.ownBlock=some k∨k=w.heap.size:=by
 subst hsz hby
 have hbytes:(n+m)*i.bytes≤140737488355328:=by
  calc (n+m)*i.bytes≤34359738368*4096:=Nat.mul_le_mul hlen hb
   _≤140737488355328:=by decide
 intro k hk
 rcases hown.2 with ⟨rfl,rfl⟩ | ⟨g,cap,cur,rfl,hbg,hg,hnc,hcm,hcs,htake⟩
 · by_cases hm:m=0
   · subst hm
     have:(Builtin.append_ #[t,t] tt #[.slice none 0 0,.slice (some b) 0 c]).run P w=.ok (.slice none 0 0) w:=by
      simp [Builtin.append_,run_underlying ht,sizeOf,typeInfo,hi,Builtin.lenOf,Builtin.firstCells,loadCells,loadCellsFrom]
     rw [this] at hr
     injection hr with h2 _
     subst h2
     simp [Value.ownBlock] at hk
   · have:=run_append_nil (P:=P) w t tt e i z ht hi hz b m c news hl hnews (by omega) (by omega) (by rw [Nat.zero_add] at hbytes; omega)
     rw [this] at hr
     injection hr with h2 _
     subst h2
     simp only [Value.ownBlock,Option.some.injEq] at hk
     exact .inr hk.symm
 · by_cases hroom:n+m≤cap
   · have:=run_append_room (P:=P) w t tt e i ht hi g n cap cur hg b m c news hl hnews h1 hroom (by rw [hl,hcs,← Nat.add_mul]; exact Nat.mul_le_mul_right _ hroom)
     rw [this] at hr
     injection hr with h2 _
     subst h2
     exact .inl hk
   · have holds:∀ j u,xs[j]?=some u→w.cell? ((⟨g,0,none⟩:Addr).add j)=some u:=hown.cells (g:=g) rfl
     have:=run_append_grow (P:=P) w t tt e i z ht hi hz ⟨g,0,none⟩ n cap xs hown.1 holds b m c news hl hnews (by omega) (by omega) (growslice_fits (by omega) hbytes)
     rw [this] at hr
     injection hr with h2 _
     subst h2
     simp only [Value.ownBlock,Option.some.injEq] at hk
     exact .inr hk.symm
theorem um {α:Type} [Cod α] {t e tt:TypeId} {bytes:Nat} {zero:List Value} (hT:SlT P t e (Cod.n α) bytes zero) {sv tv:Value} {xs ys:List α} (hown:w.ownsRow 0 e (Cod.n α) sv xs.length (flat xs)) (hv:View w tv ys)
 (hlen:xs.length+ys.length≤34359738368) :
 ∃ v' w',(Builtin.append_ #[t,t] tt #[sv,tv]).run P w=.ok v' w'∧w'.ownsRow 0 e (Cod.n α) v' (xs++ys).length (flat (xs++ys))∧w.grownBy w' sv.ownBlock∧(∀ k,v'.ownBlock=some k→sv.ownBlock=some k∨k=w.heap.size)∧(ys≠[]→NN v' (xs++ys).length):=by
 obtain ⟨ht,i,z,hi,hz,hzc,hsz,hby,hzl,hn,hb⟩:=hT
 by_cases hne:ys=[]
 · subst hne
   obtain ⟨_,⟨h1,_⟩ | ⟨g,off,cap,cur,e',fr,h1,h2,_⟩⟩:=hv
   · subst h1
     refine ⟨sv,w,run_append_owned_none w 0 t tt e i (Cod.n α) ht hi sv _ _ hown,by simpa using hown,⟨rfl,rfl,rfl,Nat.le_refl _,fun _ _ _=>rfl⟩,fun _=>.inl,fun h=>(h rfl).elim⟩
   · subst h1
     obtain ⟨v',w',hr,h2,h3,h4⟩:=run_append_own (P:=P) w 0 t tt e i z (Cod.n α) bytes ht hi hz hsz hby (by rw [← hzl,← hzc]; simp) Cod.pos sv xs.length (flat xs) hown ⟨g,off,none⟩ 0 cap [] (by simp) (by simp) (by simp)
      (by have:=hown.2; simp [maxLen]; simp at hlen; omega) (by
        calc (xs.length+0)*bytes≤34359738368*4096:=Nat.mul_le_mul (by simpa using hlen) hb
         _≤140737488355328:=by decide) (Nat.zero_le _)
     exact ⟨v',w',hr,by simpa using h2,h3,oT (news:=[]) hown ht hi hz hsz hby hr (by simp) (by simp) (by simp) (by simp at hlen; omega) hb,fun h=>(h rfl).elim⟩
 · obtain ⟨g,off,c,rfl,hc⟩:=pu hv hne
   obtain ⟨v',w',hr,h2,h3,h4⟩:=run_append_own (P:=P) w 0 t tt e i z (Cod.n α) bytes ht hi hz hsz hby (by rw [← hzl,← hzc]; simp) Cod.pos sv xs.length (flat xs) hown ⟨g,off,none⟩ ys.length c (flat ys) (bV ys) hc (rU ys)
    (by simp [maxLen]; omega) (by
      calc (xs.length+ys.length)*bytes≤34359738368*4096:=Nat.mul_le_mul hlen hb
       _≤140737488355328:=by decide) (Nat.zero_le _)
   have hl:0 < ys.length:=List.length_pos_iff.2 hne
   refine ⟨v',w',hr,by rw [jn,List.length_append]; exact h2,h3,oT hown ht hi hz hsz hby hr (bV ys) hc (rU ys) hlen hb,fun _=>?_⟩
   rw [List.length_append]
   exact wM h2 (by omega)
theorem mL {w':World} {sv:Value} {U:Fp} (hg:w.grownBy w' sv.ownBlock) (hU:∀ k,sv.ownBlock=some k→U k) {U':Fp} (hdr:w.drawn≤w'.drawn) (hn:∀ k,U' k→U k∨w.heap.size≤k):Moves (w0:=w0) w w' U U' :=
 ⟨hg.os,hg.tape,hg.output,fun _ hn _=>Nat.le_trans hn hg.size,fun k hk hu=>hg.block k hk fun e=>hu (hU k e.symm),hn,fun h=>Nat.le_trans h hdr⟩
theorem rm {α:Type} [Cod α] {lo:Nat} {e:TypeId} {v:Value} {xs:List α} (h:w.ownsRow 0 e (Cod.n α) v xs.length (flat xs)) (hlo:∀ k,v.ownBlock=some k→lo≤k):Sep lo w [Asn.row e v xs] (fun k=>v.ownBlock=some k) :=
 ⟨fun k=>v.ownBlock=some k,fun _=>False,fun k=>by simp,fun _ _=>id,fun k hk=>⟨hlo k hk,by
  rcases h.2 with ⟨rfl,_⟩ | ⟨g,cap,cur,rfl,_,hg,_⟩
  · simp [Value.ownBlock] at hk
  · simp only [Value.ownBlock,Option.some.injEq] at hk
    subst hk
    exact (Array.getElem?_eq_some_iff.1 hg).1⟩,⟨h,fun _=>Iff.rfl⟩,fun _=>id⟩
theorem s_app {α:Type} [Cod α] {t e e':TypeId} {bytes:Nat} {zero:List Value} (hT:SlT P t e (Cod.n α) bytes zero) {x y:Operand} {sv tv:Value} {xs ys:List α} (hx:ev F x=some sv) (hy:ev F y=some tv) (hlen:xs.length+ys.length≤34359738368) :
 Step P w0 F [Asn.row e sv xs,Asn.row e' tv ys] (.call ⟨.builtin .append,#[x,y],#[t,t]⟩) (fun v=>ys≠[]→NN v (xs++ys).length) (fun v=>[Asn.row e v (xs++ys)]):=by
 intro o a w U K Q ho ha hb hs k
 obtain ⟨f,V,hU,hd,hlt,⟨hown,hf1⟩,f2,V2,hU2,hd2,hlt2,⟨hown2,hf2⟩,hnil⟩:=hs
 obtain ⟨v',w',hr,h1,hg,hbk,h3⟩:=um (P:=P) (tt:=o.type) hT hown (ic hown2) hlen
 have hrun:(execOp a.eval o).run P w=.ok (.value v') w':=by
  simp [execOp,ho,resolve,invoke,builtin,ha x _ hx,ha y _ hy,hr]
 unfold Oper.wp
 rw [hrun]
 refine k v' w' (fun k=>v'.ownBlock=some k) h3 (mL hg (fun k hk=>(hU k).2 (.inl ((hf1 k).2 hk))) (fc _ hr) fun k hk=>?_) (rm h1 fun k hk=>?_)
 · exact (hbk k hk).imp (fun h=>(hU k).2 (.inl ((hf1 k).2 h))) fun h=>by omega
 · rcases hbk k hk with h | rfl
   · exact (hlt k ((hf1 k).2 h)).1
   · exact hb.size
theorem s_appV {α:Type} [Cod α] {t e:TypeId} {bytes:Nat} {zero:List Value} (hT:SlT P t e (Cod.n α) bytes zero) {x y:Operand} {sv tv:Value} {xs ys:List α} (hw:View w0 tv ys) (hx:ev F x=some sv) (hy:ev F y=some tv) (hlen:xs.length+ys.length≤34359738368) :
 Step P w0 F [Asn.row e sv xs] (.call ⟨.builtin .append,#[x,y],#[t,t]⟩) (fun v=>ys≠[]→NN v (xs++ys).length) (fun v=>[Asn.row e v (xs++ys)]):=by
 intro o a w U K Q ho ha hb hs k
 obtain ⟨f,V,hU,hd,hlt,⟨hown,hf1⟩,hnil⟩:=hs
 obtain ⟨v',w',hr,h1,hg,hbk,h3⟩:=um (P:=P) (tt:=o.type) hT hown (hw.below hb) hlen
 have hrun:(execOp a.eval o).run P w=.ok (.value v') w':=by
  simp [execOp,ho,resolve,invoke,builtin,ha x _ hx,ha y _ hy,hr]
 unfold Oper.wp
 rw [hrun]
 refine k v' w' (fun k=>v'.ownBlock=some k) h3 (mL hg (fun k hk=>(hU k).2 (.inl ((hf1 k).2 hk))) (fc _ hr) fun k hk=>?_) (rm h1 fun k hk=>?_)
 · exact (hbk k hk).imp (fun h=>(hU k).2 (.inl ((hf1 k).2 h))) fun h=>by omega
 · rcases hbk k hk with h | rfl
   · exact (hlt k ((hf1 k).2 h)).1
   · exact hb.size
end
end Go.Sx
