/- A part of the proof of movingpointBoxes. -/
import Derived.Test.YtpfdaoajcnophaaGreatDoorK6
set_option linter.unusedVariables false
set_option linter.unusedSimpArgs false
namespace Go.Sx
open Go Go.RowKit Go.Proofs Go.ChangeShapes Go.WideShapes
theorem mw {P:Program} {W:World} {r:Reach} {base:Nat} {t e:TypeId} {v:Value} (ht:P.underlying t=some (.slice e)) (h:Value.okWide P W r base t v) :
 v=.slice none 0 0∨∃ g off len cap cur el fr,v=.slice (some ⟨g,off,none⟩) len cap∧len≤cap∧W.heap[g]?=some (.cells cur el fr):=by
 simp only [Value.okWide,ht,Cell.okWide] at h
 cases v <;> simp_all [Cell.ok]
 rename_i a len cap
 cases a with
 | none=>cases len <;> cases cap <;> simp_all
 | some a =>
  right
  obtain ⟨h1,_,_,hsp,row,cells,hs,_⟩:=h
  obtain ⟨g,off,spot⟩:=a
  simp only at hsp
  subst hsp
  unfold World.shape? at hs
  split at hs
  · rename_i c el fr hc
    exact ⟨g,off,len,cap,⟨rfl,rfl,rfl⟩,h1,c,el,fr.1,fr.2,hc⟩
  · cases hs
theorem ue {α:Type} {n:Nat} {R:Nat→α→Prop} (h:∀ i,i < n→∃ x,R i x):∃ xs:List α,xs.length=n∧∀ i x,xs[i]?=some x→R i x:=by
 induction n with
 | zero=>exact ⟨[],rfl,fun i x hx=>by cases hx⟩
 | succ n ih =>
  obtain ⟨xs,h1,h2⟩:=ih fun i hi=>h i (by omega)
  obtain ⟨x,hx⟩:=h n (by omega)
  refine ⟨xs++[x],by simp [h1],fun i y hy=>?_⟩
  by_cases hi:i < n
  · rw [List.getElem?_append_left (by omega)] at hy
    exact h2 i y hy
  · rw [List.getElem?_append_right (by omega),h1] at hy
    by_cases e:i - n=0
    · rw [e] at hy
      have:i=n:=by omega
      subst this
      cases hy; exact hx
    · rw [List.getElem?_eq_none (by simp; omega)] at hy
      cases hy
theorem yR {α:Type} [Cod α] {H:Type} {enc:TypeId×Value→H} {P:Program} {W:World} {base:Nat} {sp:Nat→Bool} {held:Bool} {t e:TypeId} {v:Value} {d:DataW H} {p:List MemPlace}
 (ht:P.underlying t=some (.slice e)) (hc:P.cellsOf e=Cod.n α) (hval:Value.okWide P W .any base t v) (h:DataW.Trod enc P W 0 sp held t v d p)
 (hel:∀ (n:Nat) (cs:List Value) (x:DataW H×List MemPlace),DataW.trod enc P W 0 sp held n e cs=some x→∃ s:α,cs=Cod.enc s):∃ xs:List α,View W v xs:=by
 obtain ⟨fuel,hf⟩:=h
 rcases mw ht hval with rfl | ⟨g,off,len,cap,cur,el,fr,rfl,hlc,hg⟩
 · exact ⟨[],View.nilv⟩
 · rcases DataW.trod_slice ht hf with ⟨h0,_⟩ | ⟨a,len',cap',elems,rest,n,_,hv,_,_,_,hm,hlen,hels,_,_⟩
   · simp [Value.cells] at h0
   · simp only [Value.cells,List.cons.injEq,Value.slice.injEq,and_true] at hv
     obtain ⟨ha,rfl,rfl⟩:=hv
     cases ha
     rw [hc] at hels
     have key:∀ i,i < len→∃ s:α,∀ j,j < Cod.n α→cur[off+(i*Cod.n α+j)]?=(Cod.enc s)[j]?:=by
      intro i hi
      have h1:=hels i hi
      rw [List.getElem?_eq_getElem (by omega),Option.bind_eq_some_iff] at h1
      obtain ⟨cs,h2,h3⟩:=h1
      obtain ⟨s,rfl⟩:=hel _ _ _ h3
      refine ⟨s,fun j hj=>?_⟩
      obtain ⟨_,_,h4⟩:=World.cells?_some h2
      have h5:=h4 j hj
      rw [Addr.add_add] at h5
      rw [← h5]
      unfold World.cell? Addr.add
      by_cases e0:i*Cod.n α+j=0
      · rw [if_pos e0,e0]; simp [hg]
      · rw [if_neg e0]; simp [hg]
     obtain ⟨xs,hx1,hx2⟩:=ue key
     refine ⟨xs,⟨by omega,by show xs.length≤cap; omega⟩,.inr ⟨g,off,cap,cur,el,fr,by rw [hx1],hg,fun j hj=>?_⟩⟩
     rw [cj] at hj
     have hp:=Cod.pos (α:=α)
     have hi:j / Cod.n α < xs.length:=by
      rw [Nat.div_lt_iff_lt_mul hp]; exact hj
     have e2:=hx2 (j / Cod.n α) _ (List.getElem?_eq_getElem hi) (j % Cod.n α) (Nat.mod_lt _ hp)
     have e3:=rH (xs:=xs) (List.getElem?_eq_getElem hi) (Nat.mod_lt j hp)
     have e4:j / Cod.n α*Cod.n α+j % Cod.n α=j:=Nat.div_add_mod' j (Cod.n α)
     rw [e4] at e2 e3
     rw [e2,e3]
end Go.Sx
