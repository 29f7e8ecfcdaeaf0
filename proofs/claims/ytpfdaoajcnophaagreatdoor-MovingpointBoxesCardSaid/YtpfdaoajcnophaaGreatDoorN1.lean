/- A part of the proof of movingpointBoxes. -/
import Derived.Test.YtpfdaoajcnophaaGreatDoorK8
import Derived.Test.YtpfdaoajcnophaaGreatDoorM9
set_option linter.unusedVariables false
set_option linter.unusedSimpArgs false
open Go.Proofs.Tryz renaming underlying5 → nn5, underlying24 → nn24, underlying22 → nn22, underlying25 → nn25
namespace Go.Sx
open Go Go.RowKit Go.Proofs Go.ChangeShapes Go.WideShapes
set_option maxRecDepth 100000
theorem view_map {α β:Type} [Cod α] [Cod β] {w:World} {sv:Value} {xs:List α} (f:α→β) (hf:∀ x,Cod.enc (f x)=Cod.enc x) (h:View w sv xs):View w sv (xs.map f):=by
 have e:flat (xs.map f)=flat xs:=by
  unfold flat
  rw [List.flatMap_map]
  congr 1
  exact funext hf
 obtain ⟨h0,h | ⟨g,off,cap,cur,el,fr,h1,h2,h3⟩⟩:=h
 · exact ⟨by rw [List.length_map]; exact h0,.inl ⟨h.1,by rw [h.2]; rfl⟩⟩
 · refine ⟨by rw [List.length_map]; exact h0,.inr ⟨g,off,cap,cur,el,fr,by rw [List.length_map]; exact h1,h2,fun j hj=>?_⟩⟩
   rw [e] at hj ⊢
   exact h3 j hj
def Sq4:Type:={ s:Stq // s.time < 256∧s.x < 256∧s.y < 256∧s.kind < 256 }
instance yN1_1:Cod Sq4:=⟨fun s=>cSq s.1,4,fun _=>rfl,fun x=>by simp [cSq,Value.oneCell'],by decide⟩
section
variable {H:Type} {enc:TypeId×Value→H} {W:World} {base:Nat} {sp:Nat→Bool} {held:Bool}
theorem sq_cells {fuel:Nat} {cs:List Value} {x:DataW H×List MemPlace} (h:DataW.trod enc Tryz.prog W base sp held fuel 148 cs=some x):∃ s:Sq4,cs=Cod.enc s:=by
 obtain ⟨xs,n,_,_,hlen,hxl,hf⟩:=DataW.trod_struct Tryz.underlying148 h
 rw [show Tryz.prog.cellsOf 148=4 by kernel_rfl] at hlen
 obtain ⟨c0,c1,c2,c3,rfl⟩:∃ c0 c1 c2 c3,cs=[c0,c1,c2,c3]:=by
  match cs,hlen with
  | [c0,c1,c2,c3],_=>exact ⟨_,_,_,_,rfl⟩
 have k5:Tryz.prog.cellsOf 5=1:=by kernel_rfl
 have f0:DataW.trod enc Tryz.prog W base sp held n 5 (([c0,c1,c2,c3].drop 0).take (Tryz.prog.cellsOf 5))=xs[0]?:=hf 0 _ rfl
 have f1:DataW.trod enc Tryz.prog W base sp held n 5 (([c0,c1,c2,c3].drop 1).take (Tryz.prog.cellsOf 5))=xs[1]?:=hf 1 _ rfl
 have f2:DataW.trod enc Tryz.prog W base sp held n 5 (([c0,c1,c2,c3].drop 2).take (Tryz.prog.cellsOf 5))=xs[2]?:=hf 2 _ rfl
 have f3:DataW.trod enc Tryz.prog W base sp held n 5 (([c0,c1,c2,c3].drop 3).take (Tryz.prog.cellsOf 5))=xs[3]?:=hf 3 _ rfl
 rw [k5] at f0 f1 f2 f3
 rw [List.getElem?_eq_getElem (by rw [hxl]; decide)] at f0 f1 f2 f3
 obtain ⟨n0,e0,_,w0⟩:=DataW.trod_int nn5 f0
 obtain ⟨n1,e1,_,w1⟩:=DataW.trod_int nn5 f1
 obtain ⟨n2,e2,_,w2⟩:=DataW.trod_int nn5 f2
 obtain ⟨n3,e3,_,w3⟩:=DataW.trod_int nn5 f3
 obtain ⟨k0,rfl,l0⟩:=mz w0
 obtain ⟨k1,rfl,l1⟩:=mz w1
 obtain ⟨k2,rfl,l2⟩:=mz w2
 obtain ⟨k3,rfl,l3⟩:=mz w3
 simp at e0 e1 e2 e3
 subst e0 e1 e2 e3
 exact ⟨⟨⟨k0,k1,k2,k3⟩,l0,l1,l2,l3⟩,rfl⟩
theorem open_car {v:Value} {d:DataW H} {p:List MemPlace} (hval:Value.okWide Tryz.prog W .any base 24 v) (h:DataW.Trod enc Tryz.prog W 0 sp held 24 v d p) :
 ∃ (c:Crq) (s:List Stq) (sv:Value),v=vCr c sv∧(c.time < 256∧c.x < 256∧c.y < 256)∧View W sv s∧∀ i,(gt s i).time < 256∧(gt s i).x < 256∧(gt s i).y < 256∧(gt s i).kind < 256:=by
 unfold Value.okWide at hval
 rw [nn24] at hval
 obtain ⟨ar,rfl,hsz,ts,hts,_,hrow⟩:=hval
 obtain ⟨fuel,hf⟩:=h
 obtain ⟨xs,n,_,_,hlen,hxl,hg⟩:=DataW.trod_struct nn24 hf
 have ka:Tryz.prog.cellsOf 24=4:=by kernel_rfl
 have ec:(Value.cells (.agg ar)).toList=ar.toList:=by simp [Value.cells]
 rw [ec] at hg
 rw [ka] at hsz
 obtain ⟨c0,c1,c2,c3,rfl⟩:∃ c0 c1 c2 c3,ar=#[c0,c1,c2,c3]:=by
  obtain ⟨l⟩:=ar
  match l,hsz with
  | [c0,c1,c2,c3],_=>exact ⟨_,_,_,_,rfl⟩
 have k5:Tryz.prog.cellsOf 5=1:=by kernel_rfl
 have k91:Tryz.prog.cellsOf 22=1:=by kernel_rfl
 have f0:DataW.trod enc Tryz.prog W 0 sp held n 5 (([c0,c1,c2,c3].drop 0).take (Tryz.prog.cellsOf 5))=xs[0]?:=hg 0 _ rfl
 have f1:DataW.trod enc Tryz.prog W 0 sp held n 5 (([c0,c1,c2,c3].drop 1).take (Tryz.prog.cellsOf 5))=xs[1]?:=hg 1 _ rfl
 have f2:DataW.trod enc Tryz.prog W 0 sp held n 5 (([c0,c1,c2,c3].drop 2).take (Tryz.prog.cellsOf 5))=xs[2]?:=hg 2 _ rfl
 have f3:DataW.trod enc Tryz.prog W 0 sp held n 22 (([c0,c1,c2,c3].drop 3).take (Tryz.prog.cellsOf 22))=xs[3]?:=hg 3 _ rfl
 rw [k5] at f0 f1 f2
 rw [k91] at f3
 rw [List.getElem?_eq_getElem (by rw [hxl]; decide)] at f0 f1 f2 f3
 obtain ⟨n0,e0,_,w0⟩:=DataW.trod_int nn5 f0
 obtain ⟨n1,e1,_,w1⟩:=DataW.trod_int nn5 f1
 obtain ⟨n2,e2,_,w2⟩:=DataW.trod_int nn5 f2
 obtain ⟨k0,rfl,l0⟩:=mz w0
 obtain ⟨k1,rfl,l1⟩:=mz w1
 obtain ⟨k2,rfl,l2⟩:=mz w2
 simp at e0 e1 e2
 subst e0 e1 e2
 have hts':ts=[5,5,5,22]:=by
  have:Tryz.prog.cellTypes Tryz.prog.depth 24=some [5,5,5,22]:=by kernel_rfl
  rw [this] at hts
  exact (Option.some.inj hts).symm
 subst hts'
 obtain ⟨u,hu,hcell⟩:=hrow 3 c3 rfl
 have hu:u=22:=(Option.some.inj hu).symm
 subst hu
 have hv3:Value.okWide Tryz.prog W .any base 22 c3:=by
  unfold Value.okWide; rw [nn22]; exact hcell
 have h3:DataW.Trod enc Tryz.prog W 0 sp held 22 c3 (xs[3]'(by rw [hxl]; decide)).1 (xs[3]'(by rw [hxl]; decide)).2:=by
  refine ⟨n,?_⟩
  have e3:(Value.cells c3).toList=[c3]:=by
   rcases mw nn22 hv3 with rfl | ⟨g,off,len,cap,cur,el,fr,rfl,_,_⟩ <;> rfl
  rw [e3]
  exact f3
 obtain ⟨ys,hy⟩:=yR (α:=Sq4) nn22 (by kernel_rfl) hv3 h3 fun _ _ _ h=>sq_cells h
 refine ⟨⟨k0,k1,k2⟩,ys.map (·.1),c3,rfl,⟨l0,l1,l2⟩,view_map (·.1) (fun _=>rfl) hy,fun i=>?_⟩
 by_cases hi:i < (ys.map (·.1)).length
 · rw [gF hi,List.getElem_map]
   exact (ys[i]'(by rw [List.length_map] at hi; exact hi)).2
 · have e:gt (ys.map (·.1)) i=default:=by unfold gt; rw [List.getD_eq_getElem?_getD,List.getElem?_eq_none (by omega)]; rfl
   rw [e]
   exact ⟨by decide,by decide,by decide,by decide⟩
theorem open_cut {v:Value} {d:DataW H} {p:List MemPlace} (hval:Value.okWide Tryz.prog W .any base 25 v) (h:DataW.Trod enc Tryz.prog W 0 sp held 25 v d p):∃ a b:Nat,v=vCt a b∧a < 256∧b < 256:=by
 unfold Value.okWide at hval
 rw [nn25] at hval
 obtain ⟨ar,rfl,hsz,_,_⟩:=hval
 obtain ⟨fuel,hf⟩:=h
 obtain ⟨ys,m,_,_,_,hyl,hg⟩:=DataW.trod_array nn25 hf
 have ka:Tryz.prog.cellsOf 25=2:=by kernel_rfl
 have k5:Tryz.prog.cellsOf 5=1:=by kernel_rfl
 rw [ka] at hsz
 obtain ⟨c0,c1,rfl⟩:∃ c0 c1,ar=#[c0,c1]:=by
  obtain ⟨l⟩:=ar
  match l,hsz with
  | [c0,c1],_=>exact ⟨_,_,rfl⟩
 have g0:=hg 0 (by decide)
 have g1:=hg 1 (by decide)
 rw [k5] at g0 g1
 rw [List.getElem?_eq_getElem (by omega)] at g0 g1
 obtain ⟨n0,e0,_,w0⟩:=DataW.trod_int nn5 g0
 obtain ⟨n1,e1,_,w1⟩:=DataW.trod_int nn5 g1
 obtain ⟨k0,rfl,l0⟩:=mz w0
 obtain ⟨k1,rfl,l1⟩:=mz w1
 simp [Value.cells] at e0 e1
 subst e0 e1
 exact ⟨k0,k1,rfl,l0,l1⟩
end
end Go.Sx
