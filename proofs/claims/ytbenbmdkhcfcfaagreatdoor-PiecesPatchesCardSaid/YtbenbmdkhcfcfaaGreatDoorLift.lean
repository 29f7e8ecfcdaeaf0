import Derived.Test.YtbenbmdkhcfcfaaGreatDoorTie
import Derived.Test.YtbenbmdkhcfcfaaGreatDoorCards
import Derived.ProofKit
import Derived.OpenShut
import Derived.LaidMore
import Derived.Lay
import Derived.SevenTiedAt
import Derived.Carry
import Derived.Stop.Joined
import Derived.Test.YtbenbmdkhcfcfaaGreatDoorA7
import Derived.Test.YtbenbmdkhcfcfaaGreatDoorExt
set_option linter.unusedVariables false
set_option linter.unusedSimpArgs false
open Go.Proofs.Tryz renaming underlying5 → nn5, underlying166 → nn166
namespace Go.Sx
open Go Go.RowKit Go.Proofs Go.ChangeShapes Go.WideShapes
theorem ny {H:Type} {enc:TypeId×Value→H} {P:Program} (hl:laidOutB P=true) {W W':World} {sp:Nat→Bool} :
 ∀ {ts:List TypeId} {vs:List Value} {ds:List (DataW H)} {ps:List MemPlace},(∀ t∈ts,P.readableRec t=true∧t < P.types.size) →
  DataW.TrodAll enc P W 0 (fun _=>true) true ts vs ds ps→(∀ p∈ps,W.sameAt W' p)→(∀ p∈ps,sp p.block=true)→DataW.TrodAll enc P W' 0 sp true ts vs ds ps
 | [],_,_,_,_,h,_,_=>by
  obtain ⟨rfl,rfl,rfl⟩:=trodAll_nil h
  rfl
 | t::ts,_,_,_,hr,h,hs,hp=>by
  obtain ⟨v,vs1,d,ds1,a,b,rfl,rfl,rfl,h1,h2⟩:=trodAll_cons h
  have hrt:=hr t (List.mem_cons_self ..)
  exact trodAll_cons_mk (WideElems.Trod_stays hl hrt.1 hrt.2 h1 (fun p hp'=>hs p (List.mem_append_left _ hp')) (fun p hp'=>hp p (List.mem_append_left _ hp')))
   (ny hl (fun t' ht=>hr t' (List.mem_cons_of_mem _ ht)) h2 (fun p hp'=>hs p (List.mem_append_right _ hp')) (fun p hp'=>hp p (List.mem_append_right _ hp')))
theorem law_post {H:Type} {enc:TypeId×Value→H} {P:Program} (hl:laidOutB P=true) {f:Func} {s:ChangeSpec} {W W':World} {args:Array Value} {ds gs:List (DataW H)} {before:List MemPlace}
 (hs:s.vars=[]) (hfn:s.fn H (ds++gs)={ results:=[.lit (.bool true)],args:=ds }) (hr:∀ t∈f.params.toList,P.readableRec t=true∧t < P.types.size)
 (ht:f.resultTypes=#[4]) (h4:P.underlying 4=some .bool) (hW:DataW.Whole enc P f.params.toList s.vars false W args.toList ds gs before) (hb:Below W.heap.size W W') :
 s.post enc P f false true false false W args (.bool true) W':=by
 have hlt:∀ p∈before,p.block < W.heap.size:=fun p hp=>by simpa using hW.lt p hp
 have hW':=hW
 obtain ⟨p,q,hA,hV,he,_,_⟩:=hW'
 rw [hs] at hV
 obtain ⟨rfl,rfl⟩:=trodVars_none hV
 simp only [List.append_nil] at he
 subst he
 refine ⟨ds,[],before,[],before,[],hW,?_,?_,?_,hb.kit.frame _,fun h=>by cases h⟩
 ·rw [hfn,ht]
  exact trodAll_mk1 (shut_bool h4 _)
 ·rw [hfn]
  exact ny hl hr hA (fun x hx=>hb.kit.same (hlt x hx)) (fun x hx=>by simpa using hlt x hx)
 ·rw [hs,hfn]; rfl
end Go.Sx
namespace Go.Sx
open Go Go.RowKit Go.Proofs Go.ChangeShapes Go.WideShapes
set_option maxRecDepth 100000
theorem xO {n:Int} (h:(Lit.int .u8 n).wf=true):∃ k:Nat,n=(k:Int)∧k < 256:=by
 have:=bounds_u8 h
 exact ⟨n.toNat,by omega,by omega⟩
section
variable {H:Type} {enc:TypeId×Value→H} {W:World} {base:Nat} {sp:Nat→Bool} {held:Bool}
theorem vK {fuel:Nat} {cs:List Value} {x:DataW H×List MemPlace} (h:DataW.trod enc Tryz.prog W base sp held fuel 169 cs=some x):∃ s:Stp,cs=cS s:=by
 obtain ⟨xs,n,_,_,hlen,hxl,hf⟩:=DataW.trod_struct Tryz.underlying169 h
 rw [show Tryz.prog.cellsOf 169=7 by kernel_rfl] at hlen
 obtain ⟨c0,c1,c2,c3,c4,c5,c6,rfl⟩:∃ c0 c1 c2 c3 c4 c5 c6,cs=[c0,c1,c2,c3,c4,c5,c6]:=by
  match cs,hlen with
  | [c0,c1,c2,c3,c4,c5,c6],_=>exact ⟨_,_,_,_,_,_,_,rfl⟩
 have k5:Tryz.prog.cellsOf 5=1:=by kernel_rfl
 have k4:Tryz.prog.cellsOf 4=1:=by kernel_rfl
 have k38:Tryz.prog.cellsOf 166=1:=by kernel_rfl
 have k97:Tryz.prog.cellsOf 167=3:=by kernel_rfl
 have f0:DataW.trod enc Tryz.prog W base sp held n 5 (([c0,c1,c2,c3,c4,c5,c6].drop 0).take (Tryz.prog.cellsOf 5))=xs[0]?:=hf 0 _ rfl
 have f1:DataW.trod enc Tryz.prog W base sp held n 5 (([c0,c1,c2,c3,c4,c5,c6].drop 1).take (Tryz.prog.cellsOf 5))=xs[1]?:=hf 1 _ rfl
 have f2:DataW.trod enc Tryz.prog W base sp held n 5 (([c0,c1,c2,c3,c4,c5,c6].drop 2).take (Tryz.prog.cellsOf 5))=xs[2]?:=hf 2 _ rfl
 have f3:DataW.trod enc Tryz.prog W base sp held n 4 (([c0,c1,c2,c3,c4,c5,c6].drop 3).take (Tryz.prog.cellsOf 4))=xs[3]?:=hf 3 _ rfl
 have f4:DataW.trod enc Tryz.prog W base sp held n 167 (([c0,c1,c2,c3,c4,c5,c6].drop 4).take (Tryz.prog.cellsOf 167))=xs[4]?:=hf 4 _ rfl
 rw [k5] at f0 f1 f2
 rw [k4] at f3
 rw [k97] at f4
 rw [List.getElem?_eq_getElem (by rw [hxl]; decide)] at f0 f1 f2 f3 f4
 obtain ⟨n0,e0,_,w0⟩:=DataW.trod_int nn5 f0
 obtain ⟨n1,e1,_,w1⟩:=DataW.trod_int nn5 f1
 obtain ⟨n2,e2,_,w2⟩:=DataW.trod_int nn5 f2
 obtain ⟨b3,e3,_⟩:=DataW.trod_bool Tryz.underlying4 f3
 obtain ⟨ys,m,_,_,_,hyl,hg⟩:=DataW.trod_array Tryz.underlying167 f4
 have g0:=hg 0 DC
 have g1:=hg 1 DC
 have g2:=hg 2 DC
 rw [k38] at g0 g1 g2
 rw [List.getElem?_eq_getElem og] at g0 g1 g2
 obtain ⟨n4,e4,_,w4⟩:=DataW.trod_int nn166 g0
 obtain ⟨n5,e5,_,w5⟩:=DataW.trod_int nn166 g1
 obtain ⟨n6,e6,_,w6⟩:=DataW.trod_int nn166 g2
 obtain ⟨k0,rfl,l0⟩:=xO w0
 obtain ⟨k1,rfl,l1⟩:=xO w1
 obtain ⟨k2,rfl,l2⟩:=xO w2
 simp at e0 e1 e2 e3 e4 e5 e6
 subst e0 e1 e2 e3 e4 e5 e6
 exact ⟨⟨k0,k1,k2,b3,n4,n5,n6⟩,rfl⟩
end
end Go.Sx
namespace Go.Sx
open Go Go.RowKit Go.Proofs Go.ChangeShapes Go.WideShapes
theorem rk {P:Program} {W:World} {r:Reach} {base:Nat} {t e:TypeId} {v:Value} (ht:P.underlying t=some (.slice e)) (h:Value.okWide P W r base t v) :
 v=.slice none 0 0∨∃ g off len cap cur el fr,v=.slice (some ⟨g,off,none⟩) len cap∧len≤cap∧W.heap[g]?=some (.cells cur el fr):=by
 simp only [Value.okWide,ht,Cell.okWide] at h
 cases v <;> simp_all [Cell.ok]
 rename_i a len cap
 cases a with
 | none=>cases len <;> cases cap <;> simp_all
 | some a =>
  right
  obtain ⟨h1,_,_,hsp,row,cells,hs,_⟩:=h
  obtain ⟨g,off,spot⟩:=a
  simp only at hsp
  subst hsp
  unfold World.shape? at hs
  split at hs
  ·rename_i c el fr hc
   exact ⟨g,off,len,cap,⟨rfl,rfl,rfl⟩,h1,c,el,fr.1,fr.2,hc⟩
  ·cases hs
theorem ud {α:Type} {n:Nat} {R:Nat→α→Prop} (h:∀ i,i < n→∃ x,R i x):∃ xs:List α,xs.length=n∧∀ i x,xs[i]?=some x→R i x:=by
 induction n with
 | zero=>exact ⟨[],rfl,fun i x hx=>by cases hx⟩
 | succ n ih =>
  obtain ⟨xs,h1,h2⟩:=ih fun i hi=>h i og
  obtain ⟨x,hx⟩:=h n og
  refine ⟨xs++[x],by simp [h1],fun i y hy=>?_⟩
  by_cases hi:i < n
  ·rw [List.getElem?_append_left og] at hy
   exact h2 i y hy
  ·rw [List.getElem?_append_right og,h1] at hy
   by_cases e:i - n=0
   ·rw [e] at hy
    have:i=n:=by omega
    subst this
    cases hy; exact hx
   ·rw [List.getElem?_eq_none (by simp; omega)] at hy
    cases hy
theorem xC {α:Type} [Cod α] {H:Type} {enc:TypeId×Value→H} {P:Program} {W:World} {base:Nat} {sp:Nat→Bool} {held:Bool} {t e:TypeId} {v:Value} {d:DataW H} {p:List MemPlace}
 (ht:P.underlying t=some (.slice e)) (hc:P.cellsOf e=Cod.n α) (hval:Value.okWide P W .any base t v) (h:DataW.Trod enc P W 0 sp held t v d p)
 (hel:∀ (n:Nat) (cs:List Value) (x:DataW H×List MemPlace),DataW.trod enc P W 0 sp held n e cs=some x→∃ s:α,cs=Cod.enc s):∃ xs:List α,View W v xs:=by
 obtain ⟨fuel,hf⟩:=h
 rcases rk ht hval with rfl | ⟨g,off,len,cap,cur,el,fr,rfl,hlc,hg⟩
 ·exact ⟨[],View.nilv⟩
 ·rcases DataW.trod_slice ht hf with ⟨h0,_⟩ | ⟨a,len',cap',elems,rest,n,_,hv,_,_,_,hm,hlen,hels,_,_⟩
  ·simp [Value.cells] at h0
  ·simp only [Value.cells,List.cons.injEq,Value.slice.injEq,and_true] at hv
   obtain ⟨ha,rfl,rfl⟩:=hv
   cases ha
   rw [hc] at hels
   have key:∀ i,i < len→∃ s:α,∀ j,j < Cod.n α→cur[off+(i*Cod.n α+j)]?=(Cod.enc s)[j]?:=by
    intro i hi
    have h1:=hels i hi
    rw [List.getElem?_eq_getElem og,Option.bind_eq_some_iff] at h1
    obtain ⟨cs,h2,h3⟩:=h1
    obtain ⟨s,rfl⟩:=hel _ _ _ h3
    refine ⟨s,fun j hj=>?_⟩
    obtain ⟨_,_,h4⟩:=World.cells?_some h2
    have h5:=h4 j hj
    rw [Addr.add_add] at h5
    rw [← h5]
    unfold World.cell? Addr.add
    by_cases e0:i*Cod.n α+j=0
    ·rw [if_pos e0,e0]; simp [hg]
    ·rw [if_neg e0]; simp [hg]
   obtain ⟨xs,hx1,hx2⟩:=ud key
   refine ⟨xs,⟨by omega,by show xs.length≤cap; omega⟩,.inr ⟨g,off,cap,cur,el,fr,by rw [hx1],hg,fun j hj=>?_⟩⟩
   rw [bW] at hj
   have hp:=Cod.pos (α:=α)
   have hi:j / Cod.n α < xs.length:=by
    rw [Nat.div_lt_iff_lt_mul hp]; exact hj
   have e2:=hx2 (j / Cod.n α) _ (List.getElem?_eq_getElem hi) (j % Cod.n α) (Nat.mod_lt _ hp)
   have e3:=rL (xs:=xs) (List.getElem?_eq_getElem hi) (Nat.mod_lt j hp)
   have e4:j / Cod.n α*Cod.n α+j % Cod.n α=j:=Nat.div_add_mod' j (Cod.n α)
   rw [e4] at e2 e3
   rw [e2,e3]
end Go.Sx
namespace Go.Sx
open Go Go.RowKit Go.Proofs Go.ChangeShapes Go.WideShapes
set_option maxRecDepth 100000
section
variable {H:Type} {enc:TypeId×Value→H} {W:World} {base:Nat} {sp:Nat→Bool} {held:Bool}
theorem qL {v:Value} {d:DataW H} {p:List MemPlace} (hval:Value.okWide Tryz.prog W .any base 49 v) (h:DataW.Trod enc Tryz.prog W 0 sp held 49 v d p):∃ l:List Stp,View W v l :=
 xC Tryz.underlying49 (by kernel_rfl) hval h fun _ _ _ h=>vK h
end
end Go.Sx
namespace Go.Proofs.YtbenbmdkhcfcfaaGreatDoor
open Go Go.ChangeShapes Go.WideShapes Go.ChangeAt Go.RowKit Go.Sx
set_option maxRecDepth 100000
theorem own:ownKnob Tryz.prog.godebug=none:=by kernel_rfl
theorem laidOutT:laidOutB Tryz.prog=true:=by kernel_rfl
end Go.Proofs.YtbenbmdkhcfcfaaGreatDoor
