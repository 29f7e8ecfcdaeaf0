/- A part of the proof of movingnumberChecks. -/
import Derived.Test.YtpfdaoajcnophaaGreatDoorA5
import Derived.LoopN
set_option linter.unusedVariables false
set_option linter.unusedSimpArgs false
namespace Go.Sx
open Go Go.RowKit
section
variable {P:Program} {w0:World} {N:Nat} {F:List (Nat×Value)} {L:List Asn} {a:Act} {w:World} {ops:Array Oper} {Q:Exit→Act→World→Prop} {rest:List Oper}
 {d:Nat} {op:Op} {ty:TypeId} {pos:String} {aft:Array Edge}
theorem pd {α:Type} [Cod α] {t e:TypeId} {n:Nat} {z:Value} {xs:List Operand} {vs:List Value} (us:List α) (hz:∀ w,(zeroValue t).run P w=.ok z w) (hu:∀ w,(underlying t).run P w=.ok (.array n e) w) (hs:∀ w,(sizeOf e).run P w=.ok (Cod.n α) w)
 (hzl:z.cells.toList.length=us.length*Cod.n α) (hx:evs F xs=some vs) (hv:vs.map (fun v=>v.cells.toList)=us.map Cod.enc):Rd P w0 F [] (.build t ((xs.zipIdx).map fun p=>(p.2,p.1)).toArray) (.agg (flat us).toArray):=by
 refine dP fun o a w ho ha=>?_
 have h2:(((xs.zipIdx).map fun p=>(p.2,p.1)).map fun p=>(p.1,a.eval p.2))=(vs.zipIdx).map fun p=>(p.2,p.1):=by
  rw [← ha.evs hx,List.zipIdx_map]
  simp [Function.comp_def]
 have hf:Instr.fill (fun i=>some (i*Cod.n α,Cod.n α)) z.cells ((vs.zipIdx).map fun p=>(p.2,p.1))=some (flat us).toArray:=by
  have:=qe (sz:=Cod.n α) vs _ 0 [] z.cells.toList hv (fun u hu=>by
   obtain ⟨x,_,rfl⟩:=List.mem_map.1 hu
   exact Cod.len x) (by simp) (by simpa using hzl)
  rw [List.nil_append,List.nil_append,← vL] at this
  have:=ot _ _ _ _ this
  rw [Array.toArray_toList] at this
  exact this
 simp only [execOp,ho,Instr.build,Sem.run_bind,hz w,hu w,hs w,Result.andThen_ok,List.map_toArray,h2,hf]
 rfl
theorem y4 {α:Type} [Cod α] {xs:List α} {i:Nat} {u:α} (hi:xs[i]?=some u):((flat xs).drop (i*Cod.n α)).take (Cod.n α)=Cod.enc u:=by
 have hlt:i < xs.length:=(List.getElem?_eq_some_iff.1 hi).1
 have hx:xs=xs.take i++u::xs.drop (i+1):=by
  rw [List.getElem?_eq_getElem hlt] at hi
  simp only [Option.some.injEq] at hi
  rw [← hi,List.getElem_cons_drop,List.take_append_drop]
 have hl:(flat (xs.take i)).length=i*Cod.n α:=by rw [bV,List.length_take]; congr 1; omega
 rw [show flat xs=flat (xs.take i)++(Cod.enc u++flat (xs.drop (i+1))) by conv=>lhs; rw [hx]
                                                                         simp [flat],List.drop_left' hl,List.take_left' (Cod.len u)]
theorem vh {α:Type} [Cod α] {t e:TypeId} {n i:Nat} {k:IntKind} {x ix:Operand} {us:List α} {u:α} {v:Value} (hu:∀ w,(underlying t).run P w=.ok (.array n e) w) (hs:∀ w,(sizeOf e).run P w=.ok (Cod.n α) w) (ha':∀ w,(isAgg e).run P w=.ok true w)
 (hx:ev F x=some (.agg (flat us).toArray)) (hi:ev F ix=some (.int k (i:Int))) (hn:i < n) (he:us[i]?=some u) (hv:Value.agg (Cod.enc u).toArray=v):Rd P w0 F [] (.index t x ix) v :=
 dP fun o a w ho ha=>by
  have h1:(0:Int)≤(i:Int)∧(i:Int) < (n:Int):=by omega
  have h3:=y4 he
  simp [execOp,ho,Instr.index,asIntOf,ha x _ hx,ha ix _ hi,hu w,hs w,h1,part,ha' w,h3,hn,hv]
def oC (m:Nat):Nat:=((le m).reverse.headD 0).toNat
theorem vi {x ix:Operand} {t:TypeId} {m:Nat} {k:IntKind} (hu:∀ w,(underlying t).run P w=.ok .string w) (hx:ev F x=some (.string (bs m))) (hi:ev F ix=some (.int k ((0:Nat):Int))) (hm:m≠0):Rd P w0 F [] (.index t x ix) (.int .u8 ((oC m:Nat):Int)):=by
 have hl:le m≠[]:=fun e=>hm (by rw [← rG m,e]; rfl)
 have hs:0 < (bs m).size:=by
  show 0 < (le m).reverse.toArray.size
  simp only [List.size_toArray,List.length_reverse]
  exact List.length_pos_iff.2 hl
 have:=nh (P:=P) (w0:=w0) hu hx hi hs
 have e:((bs m)[0]'hs)=(le m).reverse.headD 0:=by
  have h0:∀ (l:List UInt8) (h:0 < l.length),l[0]=l.headD 0:=fun l h=>by
   cases l with
   | nil=>simp at h
   | cons a l=>rfl
  exact h0 _ _
 rw [e] at this
 exact this
end
end Go.Sx
namespace Go.Sx
open Go Go.RowKit
theorem kk {A B:World→Prop} {Q:World→Prop} (h:∀ w,Q w):∀ w,A w→B w→Q w:=fun w _ _=>h w
abbrev dv (v:Value):DOp:=⟨.det v,[]⟩
abbrev dw (v:Value) (l:List Nat):DOp:=⟨.det v,l⟩
section
variable {P:Program} {w0:World} {N:Nat} {F:List (Nat×Value)} {ops:List Oper} {D:List DOp} {H:List Hist} {Q:Exit→Act→World→Prop}
variable {i:Nat} {ξ:Nat→Value} {G:(Nat→Value)→List (Nat×Value)} {op:Op} {ty:TypeId} {pos:String} {aft:Array Edge} {dst:Option Tmp} {acc:List Nat}
theorem og1 {j:Nat} {b:Bool} {v:Value} {A:List Asn} (hA:dJ H acc i ξ=A) (hne:(acc.all fun e=>match H[e]? with | some h=>h.steps.all fun p=>!(Nat.beq p.1 i) | none=>true)=true) (hl:look (G ξ) (((ops[j]?).bind (·.dst)).getD 0)=some (.bool b))
 (hd:((ops[j]?).bind (·.dst)).isSome=true) (h:b=true→Step P w0 (g7 (G ξ) (fB op)) A op (·=v) (fun _=>A)) :
 ObS P w0 ops H G ξ i ⟨dst,op,ty,pos,aft,some (j,true)⟩ ⟨.det (gv b v),acc⟩:=k7 (c:=true) A hA hne hl hd g_t h
theorem og2 {j:Nat} {b:Bool} {v:Value} {A:List Asn} (hA:dJ H acc i ξ=A) (hne:(acc.all fun e=>match H[e]? with | some h=>h.steps.all fun p=>!(Nat.beq p.1 i) | none=>true)=true) (hl:look (G ξ) (((ops[j]?).bind (·.dst)).getD 0)=some (.bool b))
 (hd:((ops[j]?).bind (·.dst)).isSome=true) (h:(!b)=true→Step P w0 (g7 (G ξ) (fB op)) A op (·=v) (fun _=>A)) :
 ObS P w0 ops H G ξ i ⟨dst,op,ty,pos,aft,some (j,false)⟩ ⟨.det (gv (!b) v),acc⟩:=k7 (c:=true) A hA hne hl hd g_f h
theorem og3 {j:Nat} {b c:Bool} {v:Value} {A:List Asn} (hA:dJ H acc i ξ=A) (hne:(acc.all fun e=>match H[e]? with | some h=>h.steps.all fun p=>!(Nat.beq p.1 i) | none=>true)=true) (hl:look (G ξ) (((ops[j]?).bind (·.dst)).getD 0)=some (gv c (.bool b)))
 (hd:((ops[j]?).bind (·.dst)).isSome=true) (h:(c && b)=true→Step P w0 (g7 (G ξ) (fB op)) A op (·=v) (fun _=>A)) :
 ObS P w0 ops H G ξ i ⟨dst,op,ty,pos,aft,some (j,true)⟩ ⟨.det (gv (c && b) v),acc⟩:=k7 A hA hne hl hd g_ct h
theorem og4 {j:Nat} {b c:Bool} {v:Value} {A:List Asn} (hA:dJ H acc i ξ=A) (hne:(acc.all fun e=>match H[e]? with | some h=>h.steps.all fun p=>!(Nat.beq p.1 i) | none=>true)=true) (hl:look (G ξ) (((ops[j]?).bind (·.dst)).getD 0)=some (gv c (.bool b)))
 (hd:((ops[j]?).bind (·.dst)).isSome=true) (h:(c && !b)=true→Step P w0 (g7 (G ξ) (fB op)) A op (·=v) (fun _=>A)) :
 ObS P w0 ops H G ξ i ⟨dst,op,ty,pos,aft,some (j,false)⟩ ⟨.det (gv (c && !b) v),acc⟩:=k7 A hA hne hl hd g_cf h
end
end Go.Sx
namespace Go.Sx
open Go Go.RowKit
section
variable {P:Program} {w0 w:World} {N:Nat} {F:List (Nat×Value)} {L:List Asn} {a:Act} {ops:Array Oper} {Q:Exit→Act→World→Prop} {d:Nat} {op:Op} {rest:List Oper} {ty:TypeId} {pos:String} {aft:Array Edge}
theorem gd1 {j dj:Nat} {b:Bool} (h:St w0 N F L a w) (hj:(ops[j]?).bind (·.dst)=some dj) (hl:look F dj=some (.bool b)) {v:Value} (hs:b=true→Step P w0 F L op (·=v) (fun _=>L)) (hd:Nat.blt d N=true)
 (k:∀ a w,St w0 N ((d,gv b v)::F) L a w→wpList P ops Q rest a w):wpList P ops Q (⟨some d,op,ty,pos,aft,some (j,true)⟩::rest) a w:=gd (c:=true) h hj hl g_t hs hd k
end
end Go.Sx
namespace Go.Sx
open Go Go.RowKit
section
variable {P:Program} {w0:World} {N:Nat} {F:List (Nat×Value)} {L:List Asn} {ops:Array Oper} {Q:Exit→Act→World→Prop} {d:Nat} {op:Op} {rest:List Oper} {ty:TypeId} {pos:String} {aft:Array Edge}
theorem g0 {v:Value} (hs:Rd P w0 F [] op v) (hd:Nat.blt d N=true) (k:∀ a w,St w0 N ((d,v)::F) L a w→wpList P ops Q rest a w):∀ a w,St w0 N F L a w→wpList P ops Q (⟨some d,op,ty,pos,aft,none⟩::rest) a w:=fun _ _ h=>rd0 h hs hd k
theorem g1 (i:Nat) {r:Asn} {v:Value} (hi:L[i]?=some r) (hs:Rd P w0 F [r] op v) (hd:Nat.blt d N=true) (k:∀ a w,St w0 N ((d,v)::F) L a w→wpList P ops Q rest a w):∀ a w,St w0 N F L a w→wpList P ops Q (⟨some d,op,ty,pos,aft,none⟩::rest) a w:=fun _ _ h=>rd1 h i hi hs hd k
theorem gl {f:FuncId} {args:Array Operand} {ats:Array TypeId} {vs:List Value} {v:Value} {p:Prop} (hc:∀ args w,(callFunc f args).run P w=.ok (.enter f args) w) (ha:evs F args.toList=some vs)
 (ct:∀ w,Calls P f vs.toArray w (dh w v p)) (hd:Nat.blt d N=true) (k:∀ a w,St w0 N ((d,v)::F) L a w→wpList P ops Q rest a w) :
 ∀ a w,St w0 N F L a w→wpList P ops Q (⟨some d,.call ⟨.value (.func f),args,ats⟩,ty,pos,aft,none⟩::rest) a w:=fun _ _ h=>clp h hc ha ct hd k
theorem gc {f:FuncId} {vs:List Value} {v:Value} {p:Prop} (he:Ent P F op f vs) (ct:∀ w,Below w0.heap.size w0 w→(∃ U,Sep w0.heap.size w L U)→Calls P f vs.toArray w (dh w v p)) (hd:Nat.blt d N=true)
 (k:∀ a w,St w0 N ((d,v)::F) L a w→wpList P ops Q rest a w):∀ a w,St w0 N F L a w→wpList P ops Q (⟨some d,op,ty,pos,aft,none⟩::rest) a w:=fun _ _ h=>xh h he ct hd k
theorem gs (i:Nat) {t e:TypeId} {x y:Operand} {b k n:Nat} {v:Value} {cs us:List Value} (cs':List Value) (hi:L[i]?=some (Asn.blk b cs e)) (hz:∀ w,(sizeOf t).run P w=.ok n w) (hx:ev F x=some (ptr b k)) (hy:ev F y=some v)
 (hc:v.cells.toList=us) (hn:us.length=n) (h1:us.all Value.oneCell'=true) (hf:Nat.ble (k+n) cs.length=true) (hr:spl cs k us=cs')
 (c:∀ a w,St w0 N F (L.set i (Asn.blk b cs' e)) a w→wpList P ops Q rest a w):∀ a w,St w0 N F L a w→wpList P ops Q (⟨none,.store t x y,ty,pos,aft,none⟩::rest) a w:=fun _ _ h=>st h i cs' hi hz hx hy hc hn h1 hf hr c
theorem ga {t:TypeId} {z:Value} (cs:List Value) (hz:∀ w,(zeroValue t).run P w=.ok z w) (hc:z.cells.toList=cs) (hd:Nat.blt d N=true)
 (k:∀ b a w,St w0 N ((d,ptr b 0)::F) (Asn.blk b cs t::L) a w→wpList P ops Q rest a w):∀ a w,St w0 N F L a w→wpList P ops Q (⟨some d,.alloc t,ty,pos,aft,none⟩::rest) a w:=fun _ _ h=>al h cs hz hc hd k
end
end Go.Sx
namespace Go.Sx
open Go Go.RowKit
abbrev oQ:GQ:=⟨⟨false,0⟩,⟨false,0⟩⟩
abbrev oD:Qd:=⟨oQ,oQ,oQ⟩
section
variable {P:Program} {w0:World} {N:Nat} {F:List (Nat×Value)} {L:List Asn} {ops:Array Oper} {Q:Exit→Act→World→Prop} {d:Nat} {op:Op} {rest:List Oper} {ty:TypeId} {pos:String} {aft:Array Edge}
theorem ge1 {j dj:Nat} {b:Bool} (hj:(ops[j]?).bind (·.dst)=some dj) (hl:look F dj=some (.bool b)) {v:Value} (hs:b=true→Step P w0 F L op (·=v) (fun _=>L)) (hd:Nat.blt d N=true)
 (k:∀ a w,St w0 N ((d,gv b v)::F) L a w→wpList P ops Q rest a w):∀ a w,St w0 N F L a w→wpList P ops Q (⟨some d,op,ty,pos,aft,some (j,true)⟩::rest) a w:=fun _ _ h=>gd1 h hj hl hs hd k
end
end Go.Sx
namespace Go.Sx
open Go Go.RowKit
section
variable {P:Program} {w0:World} {N:Nat} {F:List (Nat×Value)} {L:List Asn} {ops:Array Oper} {Q:Exit→Act→World→Prop}
theorem gz {a:Act} {w:World} {R:Act→World→Prop} (h:St w0 N F L a w) (k:∀ a w,St w0 N F L a w→R a w):R a w:=k a w h
theorem gn {K R:Act→World→Prop} (hK:∀ a w,R a w→K a w) (k:∀ a w,St w0 N F L a w→R a w):∀ a w,St w0 N F L a w→wpList P ops (Exit.then K Q) [] a w:=fun a w h=>fW (hK a w (k a w h))
theorem gx {R S:Act→World→Prop} (f:∀ a w,S a w→R a w) (k:∀ a w,St w0 N F L a w→S a w):∀ a w,St w0 N F L a w→R a w:=fun a w h=>f a w (k a w h)
theorem gr {id:Nat} {l:List Oper} {y:Code} (k:∀ K:Act→World→Prop,(∀ a w,y.wp P Q a w→K a w)→∀ a w,St w0 N F L a w→wpList P l.toArray (Exit.then K Q) l a w):∀ a w,St w0 N F L a w→(Code.seq (.region id l.toArray false) y).wp P Q a w:=fun a w h=>qD fun K hK=>k K hK a w h
theorem gq {x y:Code} (k:∀ K:Act→World→Prop,(∀ a w,y.wp P Q a w→K a w)→∀ a w,St w0 N F L a w→x.wp P (Exit.then K Q) a w):∀ a w,St w0 N F L a w→(Code.seq x y).wp P Q a w:=fun a w h=>uR fun K hK=>k K hK a w h
theorem gB {id:Nat} {c:Code} (k:∀ a w,St w0 N F L a w→c.wp P (Exit.inBlock id Q) a w):∀ a w,St w0 N F L a w→(Code.block id c).wp P Q a w:=fun a w h=>uT (k a w h)
theorem gR {id:Nat} {l:List Oper} (k:∀ a w,St w0 N F L a w→wpList P l.toArray Q l a w):∀ a w,St w0 N F L a w→(Code.region id l.toArray false).wp P Q a w:=fun a w h=>c_r (k a w h)
theorem gS (k:∀ a w,St w0 N F L a w→Q .normal a w):∀ a w,St w0 N F L a w→Code.skip.wp P Q a w:=fun a w h=>nJ (k a w h)
theorem gE {id:Nat} (k:∀ a w,St w0 N F L a w→Q (.exit id) a w):∀ a w,St w0 N F L a w→(Code.exit id).wp P Q a w:=fun a w h=>kd (k a w h)
theorem gT (k:∀ a w,St w0 N F L a w→Q .ret a w):∀ a w,St w0 N F L a w→Code.ret.wp P Q a w:=fun a w h=>c_ret (k a w h)
theorem gN {id:Nat} (k:∀ a w,St w0 N F L a w→Q .normal a w):∀ a w,St w0 N F L a w→Exit.inBlock id Q .normal a w:=k
section
variable {H:List Hist} {i:Nat} {G:(Nat→Value)→List (Nat×Value)} {op:Op} {ty:TypeId} {pos:String} {aft:Array Edge} {dst:Option Tmp} {acc:List Nat} {ol:List Oper}
theorem om {x:Operand} {v:Value} {ξ:Nat→Value} (h:ev (g7 (G ξ) (fB (.move x))) x=some v):ObS P w0 ol H G ξ i ⟨dst,.move x,ty,pos,aft,none⟩ ⟨.det v,[]⟩:=bk (ay h)
theorem oh {j:Nat} {b:Bool} {v:Value} {A:List Asn} {ξ:Nat→Value} (hA:dJ H acc i ξ=A) (hne:(acc.all fun e=>match H[e]? with | some h=>h.steps.all fun p=>!(Nat.beq p.1 i) | none=>true)=true) (hl:look (G ξ) (((ol[j]?).bind (·.dst)).getD 0)=some (.bool b))
 (hd:((ol[j]?).bind (·.dst)).isSome=true) (h:b=true→Rd P w0 (g7 (G ξ) (fB op)) A op v) :
 ObS P w0 ol H G ξ i ⟨dst,op,ty,pos,aft,some (j,true)⟩ ⟨.det (gv b v),acc⟩:=og1 hA hne hl hd fun hg=>(h hg).step
end
end
end Go.Sx
namespace Go.Sx
open Go Go.RowKit
section
variable {P:Program} {w0:World} {F:List (Nat×Value)}
theorem fa {s:TypeId} {fs:Array Field} {f:Nat} {fld:Field} {n b k k':Nat} {x:Operand} (hu:∀ w,(underlying s).run P w=.ok (.struct fs) w) (hf:fs[f]?=some fld) (hz:∀ w,(sizeOf fld.type).run P w=.ok n w) (hn:Nat.beq n 0=false)
 (hx:ev F x=some (ptr b k)) (hk:k+fld.offset=k'):Rd P w0 F [] (.fieldAddr s x f) (ptr b k'):=r_fa hu hf hz (fun e=>by rw [e] at hn; cases hn) hx hk
theorem fs {s:TypeId} {fs:Array Field} {f:Nat} {fld:Field} {n m k k':Nat} {sv:Value} {x:Operand} (hu:∀ w,(underlying s).run P w=.ok (.struct fs) w) (hf:fs[f]?=some fld) (hz:∀ w,(sizeOf fld.type).run P w=.ok n w) (hn:Nat.beq n 0=false)
 (hs:NN sv m) (hx:ev F x=some (sel sv k)) (hk:k+fld.offset=k'):Rd P w0 F [] (.fieldAddr s x f) (sel sv k'):=r_faS hu hf hz (fun e=>by rw [e] at hn; cases hn) hs hx hk
end
end Go.Sx
namespace Go.Sx
open Go Go.RowKit
section
variable {P:Program} {w0 w:World} {N:Nat} {F:List (Nat×Value)} {L:List Asn} {a:Act} {ops:Array Oper} {Q:Exit→Act→World→Prop} {d:Nat} {op:Op} {rest:List Oper}
theorem gK {j dj:Nat} {want c b g:Bool} {dd:Option Tmp} {ty:TypeId} {pos:String} {aft:Array Edge} (h:St w0 N F L a w) (hj:(ops[j]?).bind (·.dst)=some dj) (hl:look F dj=some (gv c (.bool b))) (hg:(c && (b == want))=g) (hgt:g=true)
 (k:wpList P ops Q (⟨dd,op,ty,pos,aft,none⟩::rest) a w):wpList P ops Q (⟨dd,op,ty,pos,aft,some (j,want)⟩::rest) a w:=by
 have hw:=sD (o:=⟨dd,op,ty,pos,aft,some (j,want)⟩) rfl hj h hl
 rw [hg,hgt] at hw
 unfold wpList at k ⊢
 rw [hw]
 exact k
end
end Go.Sx
namespace Go.Sx
open Go Go.RowKit
def PV (w:World) (b:Nat) (cs:List Value):Prop:=∃ e fr,w.heap[b]?=some (.cells cs.toArray e fr)
section
variable {P:Program} {w0:World} {F:List (Nat×Value)} {L:List Asn}
theorem PV.below {w w':World} {b:Nat} {cs:List Value} (h:PV w b cs) (hb:Below w.heap.size w w'):PV w' b cs:=by
 obtain ⟨e,fr,h⟩:=h
 refine ⟨e,fr,?_⟩
 rw [hb.block b (by rcases Nat.lt_or_ge b w.heap.size with h1 | h1; exact h1; simp [Array.getElem?_eq_none h1] at h)]
 exact h
theorem blk_pv {w:World} {b:Nat} {cs:List Value} {e:TypeId} (hs:∃ U,Sep w0.heap.size w L U) (i:Nat) (hi:L[i]?=some (Asn.blk b cs e)):PV w b cs:=by
 obtain ⟨U,hU⟩:=hs
 obtain ⟨f,⟨_,hh⟩,_⟩:=hU.at hi
 exact ⟨e,_,hh⟩
theorem r_ldP {t:TypeId} {agg:Bool} {n b k:Nat} {cs:List Value} {x:Operand} {v:Value} (hp:PV w0 b cs) (ht:∀ w,(isAgg t).run P w=.ok agg w) (hz:∀ w,(sizeOf t).run P w=.ok n w) (hx:ev F x=some (ptr b k))
 (hn:Nat.blt 0 n=true) (hl:((cs.drop k).take n).length=n) (hv:mkv agg ((cs.drop k).take n)=v):Rd P w0 F [] (.load t x) v:=by
 intro o a w U ho ha hb hs
 obtain ⟨e,fr,hh⟩:=hp.below hb
 have:=kZ (P:=P) (g:=b) (o:=k) (w:=w) ht hz hl (Nat.le_of_ble_eq_true hn) (fun j v hj=>by
  have:w.cell? ⟨b,k+j,none⟩=cs[k+j]?:=by simp [World.cell?,hh]
  rw [this]; exact o9 hj)
 simp [execOp,ho,ha x _ hx,Instr.loadAt,Instr.sureAddr,ptr,this,hv]
end
end Go.Sx
namespace Go.Sx
open Go Go.RowKit
section
variable {P:Program} {w0:World} {N:Nat} {F:List (Nat×Value)} {L:List Asn} {a:Act} {w:World} {ops:Array Oper} {Q:Exit→Act→World→Prop} {rest:List Oper}
 {d:Nat} {op:Op} {ty:TypeId} {pos:String} {aft:Array Edge}
theorem sA {c:Code} (n:Nat) (h:c.wp P (Exit.then (Code.rounds P c Q n) Q) a w):(Code.loop c).wp P Q a w:=wp_loop_rounds (n+1) h
theorem s_empR {A:List Asn} {φ:Value→Prop} {A':Value→List Asn} (h:Step P w0 F A op φ A'):Step P w0 F (.emp::A) op φ A':=by
 intro o a w U K Q ho ha hb hs k
 obtain ⟨f,V,hU,_,_,hf,hV⟩:=hs
 have e:U=V:=funext fun k=>propext ⟨fun hk=>((hU k).1 hk).elim (fun h=>(hf k h).elim) id,fun hk=>(hU k).2 (.inr hk)⟩
 subst e
 exact h o a w U K Q ho ha hb hV k
theorem wG {α:Type} [Cod α] {f:FuncId} {vs:List Value} {e:TypeId} {xs:List α} {p:Prop} (he:Ent P F op f vs) (ct:∀ w,Below w0.heap.size w0 w→(∃ U,Sep w0.heap.size w L U)→Calls P f vs.toArray w (RetR w e xs p)) :
 Step P w0 F L op (fun v=>SL v xs.length∧p) (fun v=>Asn.row e v xs::L):=qL (A:=fun v=>[Asn.row e v xs]) he ct
def ue (v:Value):Prop:=∃ p l c,v=.slice p l c
theorem SL.is {v:Value} {n:Nat} (h:SL v n):ue v:=by obtain ⟨b,c,rfl⟩:=h; exact ⟨_,_,_,rfl⟩
theorem s_slsl {t e:TypeId} {bytes:Nat} {x y:Operand} {u v:Value} (hT:SlT P t e 1 bytes [.slice none 0 0]) (hx:ev F x=some u) (hy:ev F y=some v) (hu:ue u) (hv:ue v) :
 Step P w0 F [] (.buildSlice t 2 #[(0,x),(1,y)]) (fun s=>∃ b,s=.slice (some ⟨b,0,none⟩) 2 2) (fun s=>match s with | .slice (some ⟨b,_,_⟩) _ _=>[Asn.blk b [u,v] e] | _=>[]):=by
 obtain ⟨up,ul,uc,rfl⟩:=hu
 obtain ⟨vp,vl,vc,rfl⟩:=hv
 intro o a w U K Q ho ha hb hs k
 obtain ⟨ht,i,z,hi,hz,hzc,hsz,hby,hzl,hn,_⟩:=hT
 unfold Oper.wp
 have hz':z.cells=#[.slice none 0 0]:=by rw [← Array.toArray_toList (xs:=z.cells),hzc]
 have hf:Instr.fill (fun i=>some (i*1,1)) ((Array.range (2*1)).map fun j=>(#[Value.slice none 0 0])[j % (#[Value.slice none 0 0]).size]!) [(0,.slice up ul uc),(1,.slice vp vl vc)]=some #[.slice up ul uc,.slice vp vl vc]:=by
  have h0:((Array.range (2*1)).map fun j=>(#[Value.slice none 0 0])[j % (#[Value.slice none 0 0]).size]!)=[Value.slice none 0 0,Value.slice none 0 0].toArray:=by
   apply Array.ext
   · simp
   · intro i h1 h2
     have:i=0∨i=1:=by simp at h2; omega
     rcases this with rfl | rfl <;> simp
  rw [h0]
  exact ot _ [(0,.slice up ul uc),(1,.slice vp vl vc)] [.slice none 0 0,.slice none 0 0] [.slice up ul uc,.slice vp vl vc] rfl
 have hr:(execOp a.eval o).run P w=.ok (.value (.slice (some ⟨w.heap.size,0,none⟩) 2 2)) (w.alloc (.cells #[.slice up ul uc,.slice vp vl vc] e)):=by
  have n1:¬ (2 ^ 24 < 2*1):=by omega
  have n2:¬ (2*1=0):=by omega
  simp only [execOp,ho,Instr.buildSlice,Sem.run_bind,run_underlying ht,Result.andThen_ok,sizeOf,typeInfo,run_program,hi,Sem.run_pure,hsz,gt_iff_lt,n1,n2,if_false,zeroValue,hz,hz',List.map_toArray,List.map_cons,List.map_nil,ha x _ hx,ha y _ hy,hf,newRow,run_newObj]
  rfl
 rw [hr]
 refine k _ _ (fun k=>k=w.heap.size) ⟨_,rfl⟩ ((jl w _).weak fun _ h=>h.elim) ⟨fun k=>k=w.heap.size,fun _=>False,fun k=>by simp,fun _ _=>id,fun k hk=>by simp only [hk,World.size_alloc]; have:=hb.size; omega,?_,fun _=>id⟩
 refine ⟨fun k=>Iff.rfl,?_⟩
 show (w.heap.push _)[w.heap.size]?=_; simp
theorem bsl (h:St w0 N F L a w) {t e:TypeId} {bytes:Nat} {x y:Operand} {u v:Value} (hT:SlT P t e 1 bytes [.slice none 0 0]) (hx:ev F x=some u) (hy:ev F y=some v) (hu:ue u) (hv:ue v) (hd:Nat.blt d N=true)
 (k:∀ b a w,St w0 N ((d,.slice (some ⟨b,0,none⟩) 2 2)::F) (Asn.blk b [u,v] e::L) a w→wpList P ops Q rest a w):wpList P ops Q (⟨some d,.buildSlice t 2 #[(0,x),(1,y)],ty,pos,aft,none⟩::rest) a w :=
 nw h (s_slsl hT hx hy hu hv) hd fun s a w ⟨b,hb⟩ h=>by subst hb; exact k b a w h
end
end Go.Sx
namespace Go.Sx
open Go Go.RowKit
structure Bd where
 at_:GR
 behind:Bool
 deriving DecidableEq
def cW (x:Bd):List Value:=cR x.at_++[.bool x.behind]
def vW (x:Bd):Value:=.agg (cW x).toArray
instance yB1_1:Cod Bd:=⟨cW,10,fun _=>rfl,fun x=>dB (yy _) (by simp [Value.oneCell']),by decide⟩
instance yB1_2:Inhabited Bd:=⟨⟨default,false⟩⟩
def SzW (k:Nat) (x:Bd):Prop:=SzR k x.at_
theorem SzW_d (k:Nat):SzW k default:=SzR_d k
end Go.Sx
namespace Go.Sx
open Go Go.RowKit
structure Ev where
 at_:Bd
 b0:Int
 b1:Int
 deriving DecidableEq
def cE (x:Ev):List Value:=cW x.at_++[.int .i64 x.b0,.int .i64 x.b1]
def vE (x:Ev):Value:=.agg (cE x).toArray
theorem oneW (x:Bd):∀ c∈cW x,c.oneCell'=true:=dB (yy _) (by simp [Value.oneCell'])
instance yB1_3:Cod Ev:=⟨cE,12,fun _=>rfl,fun x=>dB (oneW _) (by simp [Value.oneCell']),by decide⟩
instance yB1_4:Inhabited Ev:=⟨⟨default,0,0⟩⟩
def SzE (k:Nat) (x:Ev):Prop:=SzW k x.at_
theorem ub (k:Nat):SzE k default:=SzW_d k
structure I2 where
 n0:Int
 n1:Int
 deriving DecidableEq
def cJ (x:I2):List Value:=[.int .i64 x.n0,.int .i64 x.n1]
instance yB1_5:Cod I2:=⟨cJ,2,fun _=>rfl,fun x=>by simp [cJ,Value.oneCell'],by decide⟩
instance yB1_6:Inhabited I2:=⟨⟨0,0⟩⟩
structure Bt (α β:Type) where
 iv:Iv
 f:α
 g:β
 deriving DecidableEq
instance yB1_7 {α β:Type} [Inhabited α] [Inhabited β]:Inhabited (Bt α β):=⟨⟨default,default,default⟩⟩
def cBI (x:Bt Qd Int):List Value:=cV x.iv++(cD x.f++[.int .i64 x.g])
instance yB1_8:Cod (Bt Qd Int):=⟨cBI,33,fun _=>rfl,fun x=>dB (oneV _) (dB (oneD _) (by simp [Value.oneCell'])),by decide⟩
def cBD (x:Bt Qd Qd):List Value:=cV x.iv++(cD x.f++cD x.g)
def vBD (x:Bt Qd Qd):Value:=.agg (cBD x).toArray
instance yB1_9:Cod (Bt Qd Qd):=⟨cBD,44,fun _=>rfl,fun x=>dB (oneV _) (dB (oneD _) (oneD _)),by decide⟩
def SzBD (k:Nat) (x:Bt Qd Qd):Prop:=SzV k x.iv∧SzD k x.f∧SzD k x.g
end Go.Sx
