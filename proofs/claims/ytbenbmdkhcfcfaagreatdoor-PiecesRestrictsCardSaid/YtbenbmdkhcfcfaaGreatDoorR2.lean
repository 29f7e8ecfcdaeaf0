import Derived.Test.YtbenbmdkhcfcfaaGreatDoorC1
import Derived.Shelf.Spec.SlicesGrow
import Derived.Test.YtbenbmdkhcfcfaaGreatDoorCo
set_option linter.unusedVariables false
set_option linter.unusedSimpArgs false
set_option maxRecDepth 100000
set_option maxHeartbeats 40000000
namespace Go.Sx
section
variable {α:Type} [Inhabited α]
def dU (d:List Iv):List (U Unit):=d.map fun i=>⟨i,()⟩
def unB {α β:Type} (x:Bt α β):U α:=⟨x.iv,x.f⟩
def rsA (l:List (U α)) (d:List Iv) (i k:Nat):List (U α):=(rfA (rfQ l (dU d)) d.length i k).map unB
theorem ye {d:List Iv} {k:Nat} (h:k < d.length):gt (dU d) k=⟨gt d k,()⟩:=by
 have h2:k < (dU d).length:=by unfold dU; rw [List.length_map]; exact h
 rw [fK h2,fK h]
 exact List.getElem_map _
theorem w7 {l:List (U α)} {d:List Iv} (i:Nat):rsA l d i d.length=rsA l d (i+1) 0:=by unfold rsA; rw [tK]
theorem w3 {l:List (U α)} {d:List Iv} {i k:Nat} (hi:i < l.length) (hk:k < d.length) (h:(bg (gt l i).iv (gt d k)).2=true):rsA l d i k++[(⟨(bg (gt l i).iv (gt d k)).1,(gt l i).f⟩:U α)]=rsA l d i (k+1):=by
 unfold rsA
 rw [rfA_k,List.map_append]
 unfold rfQ
 rw [decide_eq_true hi,ye hk,h]
 rfl
theorem rsA_no {l:List (U α)} {d:List Iv} {i k:Nat} (hi:i < l.length) (hk:k < d.length) (h:(bg (gt l i).iv (gt d k)).2=false):rsA l d i k=rsA l d i (k+1):=by
 unfold rsA
 rw [rfA_k,List.map_append]
 unfold rfQ
 rw [decide_eq_true hi,ye hk,h]
 exact (List.append_nil _).symm
theorem dU_od {d:List Iv} (h:Cn d):Od (dU d):=by
 refine ⟨fun x hx=>?_,?_⟩
 ·obtain ⟨i,hi,rfl⟩:=List.mem_map.1 hx
  exact h.wv i hi
 ·refine List.pairwise_map.2 (h.sep.imp fun {a b} hab=>?_)
  have h1:=mw a
  have h2:=kN b
  show ee a < (dL b:Int)
  omega
def rsL (l:List (U α)) (d:List Iv):List (U α):=rsA l d l.length 0
theorem rs_ord {l:List (U α)} {d:List Iv} (hl:Od l) (hd:Cn d):(rsL l d).Pairwise fun a b=>ee a.iv < (dL b.iv:Int):=by
 have:=rf_ord hl (dU_od hd)
 rw [show (dU d).length=d.length by unfold dU; exact List.length_map _] at this
 exact List.pairwise_map.2 this
theorem qE {l:List (U α)} {d:List Iv} (hl:Od l) (hd:Cn d) {x:U α} (hx:x∈rsL l d):∃ u∈l,x.f=u.f∧Wv x.iv∧(∀ q,inU x.iv q→inU u.iv q∧inP d q)∧∃ i∈d,(∀ q,inU x.iv q↔inU u.iv q∧inU i q):=by
 obtain ⟨y,hy,rfl⟩:=List.mem_map.1 hx
 have e:(dU d).length=d.length:=by unfold dU; exact List.length_map _
 rw [← e] at hy
 obtain ⟨i,k,hi,hk,hm,rfl⟩:=rf_mem.1 hy
 rw [e] at hk
 rw [ye hk] at hm ⊢
 have hu:gt l i∈l:=by rw [fK hi]; exact List.getElem_mem _
 have hv:gt d k∈d:=by rw [fK hk]; exact List.getElem_mem _
 obtain ⟨w,p⟩:=ry (hl.wv _ hu) (hd.wv _ hv) hm
 exact ⟨gt l i,hu,rfl,w,fun q hq=>⟨((p q).1 hq).1,gt d k,hv,pK.2 ((p q).1 hq).2⟩,gt d k,hv,p⟩
theorem rs_at {l:List (U α)} {d:List Iv} (hl:Od l) (hd:Cn d) {u:U α} (hu:u∈l) {q:Nat} (h1:inU u.iv q) (h2:inP d q):∃ x∈rsL l d,inU x.iv q∧x.f=u.f:=by
 obtain ⟨i,hi,e⟩:=sJ hu
 obtain ⟨v,hv,h3⟩:=h2
 obtain ⟨k,hk,e2⟩:=sJ hv
 cases hm:(bg (gt l i).iv (gt d k)).2 with
 | false =>
  rw [e,e2] at hm
  exact absurd ⟨h1,pK.1 h3⟩ (meet_no (hl.wv _ hu) (hd.wv _ hv) hm q)
 | true =>
  refine ⟨⟨(bg (gt l i).iv (gt d k)).1,(gt l i).f⟩,?_,?_,by rw [e]⟩
  ·have hx:(⟨(bg (gt l i).iv (gt d k)).1,(gt l i).f,()⟩:Bt α Unit)∈rfA (rfQ l (dU d)) (dU d).length l.length 0 :=
    rf_mem.2 ⟨i,k,hi,by unfold dU; rw [List.length_map]; exact hk,by rw [ye hk]; exact hm,by rw [ye hk]⟩
   rw [show (dU d).length=d.length by unfold dU; exact List.length_map _] at hx
   exact List.mem_map.2 ⟨_,hx,rfl⟩
  ·rw [e,e2] at hm ⊢
   exact ((ry (hl.wv _ hu) (hd.wv _ hv) hm).2 q).2 ⟨h1,pK.1 h3⟩
theorem tJ {β R:Type} [Inhabited β] {u:List (U α)} {v:List (U β)}:∀ (n i k:Nat) (out:List (Bt α β)) {st:List (Bt α β)×Nat×Nat},i≤u.length→k≤v.length→out.length≤i+k→br (R:=R) (fun s=>rfB u v s.1 s.2.1 s.2.2) n (out,i,k)=.inl st→st.1.length≤u.length+v.length
 | 0,i,k,out,st,hi,hk,ho,h=>by
  have:(.inl (out,i,k):(List (Bt α β)×Nat×Nat) ⊕ R)=.inl st:=h
  cases this
  show out.length≤_
  omega
 | n+1,i,k,out,st,hi,hk,ho,h=>by
  by_cases hc:i < u.length∧k < v.length
  ·have hc2:((decide ((i:Int) < (u.length:Int))) && (decide ((k:Int) < (v.length:Int))))=true:=by
    rw [decide_eq_true (by omega:(i:Int) < (u.length:Int)),decide_eq_true (by omega:(k:Int) < (v.length:Int))]; rfl
   obtain ⟨o2,e,hl⟩:∃ o2:List (Bt α β),(rfB (R:=R) u v out i k=.go (o2,i+1,k)∨rfB (R:=R) u v out i k=.go (o2,i,k+1))∧o2.length≤out.length+1:=by
    unfold rfB
    rw [hc2,cond_true]
    cases (bg ((gt u i).iv) ((gt v k).iv)).2 <;> cases fB ((gt u i).iv) ((gt v k).iv)
    ·exact ⟨out,.inr rfl,Nat.le_succ _⟩
    ·exact ⟨out,.inl rfl,Nat.le_succ _⟩
    ·exact ⟨_,.inr rfl,by rw [List.length_append]; exact Nat.le_refl _⟩
    ·exact ⟨_,.inl rfl,by rw [List.length_append]; exact Nat.le_refl _⟩
   rcases e with e | e
   ·rw [eW n (show (fun s:List (Bt α β)×Nat×Nat=>rfB (R:=R) u v s.1 s.2.1 s.2.2) (out,i,k)=_ from e)] at h
    exact tJ n (i+1) k o2 hc.1 hk og h
   ·rw [eW n (show (fun s:List (Bt α β)×Nat×Nat=>rfB (R:=R) u v s.1 s.2.1 s.2.2) (out,i,k)=_ from e)] at h
    exact tJ n i (k+1) o2 hi hc.2 og h
  ·have e:rfB (R:=R) u v out i k=.out (out,i,k):=by
    unfold rfB
    have:((decide ((i:Int) < (u.length:Int))) && (decide ((k:Int) < (v.length:Int))))=false:=by
     rw [Bool.and_eq_false_iff,decide_eq_false_iff_not,decide_eq_false_iff_not]; omega
    rw [this]; rfl
   rw [fF n (show (fun s:List (Bt α β)×Nat×Nat=>rfB (R:=R) u v s.1 s.2.1 s.2.2) (out,i,k)=_ from e)] at h
   cases h
   show out.length≤_
   omega
theorem rf_len2 {β:Type} [Inhabited β] {u:List (U α)} {v:List (U β)} (hu:Od u) (hv:Od v):(rfA (rfQ u v) v.length u.length 0).length≤u.length+v.length:=by
 obtain ⟨st,e1,e2⟩:=nc (R:=Unit) hu hv ((u.length - 0)+(v.length - 0)+1) 0 0 [] (Nat.zero_le _) (Nat.zero_le _) og rfl (fun _ _ _ h=>absurd h (Nat.not_lt_zero _))
 rw [← e2]
 exact tJ (R:=Unit) _ 0 0 [] (Nat.zero_le _) (Nat.zero_le _) (Nat.zero_le _) e1
theorem rs_len2 {l:List (U α)} {d:List Iv} (hl:Od l) (hd:Cn d):(rsL l d).length≤l.length+d.length:=by
 have:=rf_len2 hl (dU_od hd)
 rw [show (dU d).length=d.length by unfold dU; exact List.length_map _] at this
 unfold rsL rsA
 rw [List.length_map]
 exact this
end
end Go.Sx
namespace Go.Sx
open Go Go.RowKit Go.Proofs
attribute [local irreducible] Code.wp wpList Rd gX ObS Ent
attribute [local irreducible] an bD ah aN aC dg
def jk (l:List (U Qd)) (during:List Iv) (out:List (U Qd)) (x16:Nat):(List (U Qd)) :=
 (de out)
def lG (l:List (U Qd)) (during:List Iv) (out:List (U Qd)) (x16:Nat) (out2:List (U Qd)) (x22:Nat):Nx ((List (U Qd))×Nat) (List (U Qd)) :=
 .go (out2,(x16+1))
def cx (l:List (U Qd)) (during:List Iv) (out:List (U Qd)) (x16:Nat) (out2:List (U Qd)) (x22:Nat):Nx ((List (U Qd))×Nat) (List (U Qd)) :=
 bif (decide ((x22:Int) < (during.length:Int))) then
  bif (bg ((gt l x16).iv) (gt during x22)).2 then
   .go ((out2++[(⟨(bg ((gt l x16).iv) (gt during x22)).1,(gt l x16).f⟩:U Qd)]),(x22+1))
  else
   .go (out2,(x22+1))
 else
  .out (out2,x22)
def cz (l:List (U Qd)) (during:List Iv) (out:List (U Qd)) (x16:Nat):Nx ((List (U Qd))×Nat) (List (U Qd)) :=
 bif (decide ((x16:Int) < (l.length:Int))) then
  fin (br (fun s=>cx l during out x16 s.1 s.2) ((during.length - 0)+1) (out,0)) (fun s=>lG l during out x16 s.1 s.2) (fun r=>.ret r)
 else
  .out (out,x16)
def ba (l:List (U Qd)) (during:List Iv):(List (U Qd)) :=
 fin (br (fun s=>cz l during s.1 s.2) ((l.length - 0)+1) ([],0)) (fun s=>jk l during s.1 s.2) (fun r=>r)
theorem jj (l:List (U Qd)) (lv:Value) (during:List Iv) (duringv:Value) (hl:l.length≤20) (hd:during.length≤200) (hz:All (gW 30) (rsA l during l.length 0)) (hrl:(rsA l during l.length 0).length≤300) (zl:All (gW 30) l) (zduring:All (SzV 30) during) (w0:World) (hlv:View w0 lv l) (hduringv:View w0 duringv during):Calls Tryz.prog 78 #[(.iface 55 (.agg #[])),lv,duringv] w0 (RetR w0 126 (ba l during) (All (gW 20) (ba l during)∧(ba l during).length≤900)):=by
 refine enter (N:=46) Tryz.func78 rfl rfl ?_; intro ac h
 have hlenl:=hlv.len
 have hlenduring:=hduringv.len
 refine gz h <| (W) ?_; clear h; intro _ _ h
 replace h:=h.nilRow (α:=U Qd) 126
 obtain ⟨X1,hX1⟩:∃ X,br (fun s=>cz l during s.1 s.2) ((l.length - 0)+1) ([],0)=X:=⟨_,rfl⟩
 refine wp_loop_ghost (fun n_ a_ w_=>∃ (out:List (U Qd)) (x16:Nat) (outv:Value),((l.length - x16) < n_)∧(br (fun s=>cz l during s.1 s.2) n_ (out,x16)=X1)∧(x16≤l.length)∧(out=rsA l during x16 0)∧(out.length≤200*x16)∧St w0 46 [(0,(.iface 55 (.agg #[]))),(2,duringv),(7,outv),(14,lv),(15,iN l.length),(16,iN x16)] [.row (α:=U Qd) 126 outv out] a_ w_) ((l.length - 0)+1) ⟨[],0,(.slice none 0 0),og,hX1,og,rfl,og,h.rs⟩ ?_
 clear h; rintro n1 _ _ ⟨out,x16,outv,hm1,hL1,hx16,hu,hol,h⟩
 obtain ⟨m1,rfl⟩:∃ m,n1=m+1:=⟨n1 - 1,by omega⟩
 refine gz h <| (ai) ?_ ?_ <;> clear h <;> intro _ _ h hc1
 ·
  have hd1:=of_decide_eq_true hc1
  refine gz h <| (xa) fun b1=>(W) ?_; clear h; intro _ _ h
  obtain ⟨X2,hX2⟩:∃ X,br (fun s=>cx l during out x16 s.1 s.2) ((during.length - 0)+1) (out,0)=X:=⟨_,rfl⟩
  refine wp_loop_ghost (fun n_ a_ w_=>∃ (out2:List (U Qd)) (x22:Nat) (out2v:Value),((during.length - x22) < n_)∧(br (fun s=>cx l during out x16 s.1 s.2) n_ (out2,x22)=X2)∧(x22≤during.length)∧(out2=rsA l during x16 x22)∧(out2.length≤200*x16+x22)∧St w0 46 [(0,(.iface 55 (.agg #[]))),(2,duringv),(7,out2v),(9,(ptr b1 0)),(14,lv),(15,iN l.length),(16,iN x16),(20,duringv),(21,iN during.length),(22,iN x22)] [.blk b1 (cUD (gt l x16)) 126,.row (α:=U Qd) 126 out2v out2] a_ w_) ((during.length - 0)+1) ⟨out,0,outv,og,hX2,og,hu,og,h.rs⟩ ?_
  clear h; rintro n2 _ _ ⟨out2,x22,out2v,hm2,hL2,hx22,hu2,hol2,h⟩
  obtain ⟨m2,rfl⟩:∃ m,n2=m+1:=⟨n2 - 1,by omega⟩
  refine gz h <| (ai) ?_ ?_ <;> clear h <;> intro _ _ h hc2
  ·
   have hd2:=of_decide_eq_true hc2
   refine gz h <| (xa) fun b2=>(xk (qp ((gt l x16).iv) (gt during x22) 10 og (All.gt zl (bK _)).1 (All.gt zduring (yL _)))) <| (xa) fun b3=>(ai) ?_ ?_ <;> clear h <;> intro _ _ h hc3
   ·
    refine gz h <| (xo (hs:=by exact bM je exs rfl (v:=(vUD (⟨(bg ((gt l x16).iv) (gt during x22)).1,(gt l x16).f⟩:U Qd))) rfl)) <| (W) ?_; clear h; intro _ _ h
    refine nw h (cB (α:=U Qd) (xs:=[.tmp 38]) (vs:=[(vUD (⟨(bg ((gt l x16).iv) (gt during x22)).1,(gt l x16).f⟩:U Qd))]) [(⟨(bg ((gt l x16).iv) (gt during x22)).1,(gt l x16).f⟩:U Qd)] slt50 rfl rfl rfl DC) rfl ?_; clear h; intro sv3 _ _ _ h
    refine on2 h 4 0 rfl rfl (eY (xs:=out2) (ys:=[(⟨(bg ((gt l x16).iv) (gt during x22)).1,(gt l x16).f⟩:U Qd)]) slt50 (fun w hs=>(row_view hs 0 rfl)) rfl rfl og) rfl ?_; clear h; intro sv4 _ _ _ h
    have hg:=bF hL2 pt
    exact (nx h) fun _ _ h=>by exact ⟨m2,og,_,_,_,og,hg,og,by rw [hu2]; exact w3 og og hc3,og,h.re [4,0]⟩
   ·
    have hg:=bF hL2 pt
    exact (nx h) fun _ _ h=>by exact ⟨m2,og,_,_,_,og,hg,og,by rw [hu2]; exact rsA_no og og hc3,og,h.re [2,3]⟩
  ·
   have hd2:=of_decide_eq_false hc2
   have hx2:=cG hL2 pt
   have hg:=bF hL1 pt
   exact (nx h) fun _ _ h=>by exact ⟨m1,og,_,_,_,og,hg,og,by rw [hu2,show x22=during.length by omega]; exact w7 _,og,h.re [1]⟩
 ·
  have hd1:=of_decide_eq_false hc1
  have hx1:=cG hL1 pt
  have hu2:out=rsA l during l.length 0:=by rw [hu,show x16=l.length by omega]
  have hnz:All (gW 30) out:=by rw [hu2]; exact hz
  have hnl:out.length≤300:=by rw [hu2]; exact hrl
  have hd:ba l during=de out:=pt
  refine gz h <| (W) ?_; clear h; intro _ _ h
  refine ky (xs:=de out) h (ck Tryz.call117 rfl) (fun w_ hB_ hS_=>lY out outv hnl hnz w_ (row_view hS_ 0 rfl)) rfl ?_; clear h; intro nv _ _ hp h
  exact (rx h) fun _ _ h=>(by rw [hd]; exact h.retR 0 rfl ⟨hp.1,by have:=hp.2; omega⟩)
attribute [irreducible] ba
end Go.Sx
namespace Go.Proofs
open Go.Shelf
def Tryz.layGrow_ren:Go.Shelf.Ren:=⟨fun | 4=>242 | n=>n,fun | 22=>50 | 25=>126 | n=>n,fun | n=>n⟩
theorem Tryz.layGrow:Go.Proofs.Lays8.n4 Tryz.prog Tryz.layGrow_ren:={
 mixed:=by kernel_rfl
 f4:=⟨Tryz.f242.name,by decide,Tryz.func242.trans (congrArg some (by kernel_rfl))⟩
 t0:=Tryz.underlying0
 a0:=Tryz.isAgg0
 z0:=Tryz.sizeOf0
 v0:=Tryz.zeroValue0
 t3:=Tryz.underlying3
 a3:=Tryz.isAgg3
 z3:=Tryz.sizeOf3
 v3:=Tryz.zeroValue3
 t4:=Tryz.underlying4
 a4:=Tryz.isAgg4
 z4:=Tryz.sizeOf4
 v4:=Tryz.zeroValue4
 t9:=Tryz.underlying9
 a9:=Tryz.isAgg9
 z9:=Tryz.sizeOf9
 v9:=Tryz.zeroValue9
 t20:=Tryz.underlying20
 a20:=Tryz.isAgg20
 z20:=Tryz.sizeOf20
 v20:=Tryz.zeroValue20
 t22:=Tryz.underlying50
 a22:=Tryz.isAgg50
 z22:=Tryz.sizeOf50
 v22:=Tryz.zeroValue50
}
end Go.Proofs
namespace Go.Sx
open Go Go.RowKit Go.Proofs
attribute [local irreducible] Code.wp wpList Rd gX ObS Ent
theorem grow_ct (n:Nat) (hn:n≤1000000) (w0:World):Calls Tryz.prog 242 #[.slice none 0 0,.int .i64 (n:Int)] w0 (RetR w0 126 ([]:List (U Qd)) True):=by
 by_cases h0:n=0
 ·subst h0
  refine (Any8.slices_Grow_room Tryz.layGrow none 0 0 0 w0 (Nat.le_refl _) DC DC DC).mono fun e w' h=>?_
  obtain ⟨rfl,rfl⟩:=h
  refine ⟨_,fun _=>False,rfl,⟨⟨_,_,rfl⟩,trivial⟩,Moves.same _ _,fun _=>False,fun _=>False,fun k=>by simp,fun _ h=>h.elim,fun _ h=>h.elim,⟨⟨by simp [flat],.inl ⟨rfl,rfl⟩⟩,fun k=>by simp [Value.ownBlock]⟩,fun _ h=>h⟩
 ·obtain ⟨i,z,h1,h2,h3,h4,h5,h6,h7,h8⟩:=slt50.inf
  refine (Any8.slices_Grow_grow Tryz.layGrow i z h1 h2 (by rw [h4]; decide) none 0 0 n [] w0 (Nat.le_refl _) og (by rw [h5]; omega) og (by simp) (fun _=>rfl) (fun a h=>by cases h)).mono fun e w' h=>?_
  obtain ⟨rfl,rfl⟩:=h
  have hG:=grownCap_ge w0 (0+n) 0 126
  have hG2:=grownCap_le_maxLen w0 (0+n) 0 126 (by unfold maxLen; omega)
  have hs:Array.size ((#[]:Array Value)++Builtin.zeroCells z.cells (0+n - 0)++Builtin.zeroCells z.cells (grownCap w0 (0+n) 0 126 - (0+n)))=grownCap w0 (0+n) 0 126*Cod.n (U Qd):=by
   have hz:z.cells.size=Cod.n (U Qd):=by have:=h6; rw [← h3] at this; exact (Array.length_toList ..).symm.trans this
   have k:∀ q,(Builtin.zeroCells z.cells q).size=q*Cod.n (U Qd):=fun q=>by unfold Builtin.zeroCells; rw [Array.size_map,Array.size_range,hz]
   rw [Array.size_append,Array.size_append,k,k,← hz]
   show 0+_+_=_
   rw [Nat.zero_add,← Nat.add_mul]
   congr 1; omega
  show RetR w0 126 ([]:List (U Qd)) True (.returned (.slice (some ⟨w0.heap.size,0,none⟩) 0 (grownCap w0 (0+n) 0 126))) (w0.drew.alloc (.cells ((#[]:Array Value)++Builtin.zeroCells z.cells (0+n - 0)++Builtin.zeroCells z.cells (grownCap w0 (0+n) 0 126 - (0+n))) 126))
  generalize (#[]:Array Value)++Builtin.zeroCells z.cells (0+n - 0)++Builtin.zeroCells z.cells (grownCap w0 (0+n) 0 126 - (0+n))=C at hs ⊢
  generalize grownCap w0 (0+n) 0 126=G at *
  have hh:(w0.drew.alloc (.cells C 126)).heap=w0.heap.push (.cells C 126 (0,0)):=rfl
  refine ⟨_,fun k=>Value.ownBlock (.slice (some ⟨w0.heap.size,0,none⟩) 0 G)=some k,rfl,⟨⟨_,_,rfl⟩,trivial⟩,⟨rfl,rfl,rfl,fun q hq _=>?_,fun k hk _=>?_,fun k hk=>.inr ?_,fun h=>Nat.le_trans h (Nat.le_succ _)⟩,
   tH ⟨rfl,.inr ⟨w0.heap.size,G,C,rfl,Nat.zero_le _,?_,Nat.zero_le _,hG2,hs,?_⟩⟩ fun k hk=>?_⟩
  ·rw [hh,Array.size_push]; omega
  ·rw [hh,Array.getElem?_push_lt hk]; exact (Array.getElem?_eq_getElem hk).symm
  ·cases hk; exact Nat.le_refl _
  ·rw [hh,Array.getElem?_push_size]
  ·show C.toList.take (0*_)=[]
   rw [Nat.zero_mul]; rfl
  ·cases hk; exact Nat.le_refl _
structure SLV where
 v:Value
 h:yQ v
instance zi67:Inhabited SLV:=⟨⟨.slice none 0 0,isNil⟩⟩
instance zi68:Cod SLV:=⟨fun x=>[x.v],1,fun _=>rfl,fun x c hc=>by rw [List.mem_singleton.1 hc]; obtain ⟨_,_,_,h⟩:=x.h; rw [h]; rfl,by decide⟩
instance zi69:Un Tryz.prog 315 (.slice 50):=⟨Tryz.runUnderlying315⟩
def ctn (ls:List (List (U Qd))) (s:Nat):List (U Qd):=(ls.take s).flatten
theorem u2 {ls:List (List (U Qd))} {s:Nat} (h:s < ls.length):ctn ls (s+1)=ctn ls s++gt ls s:=by
 unfold ctn
 rw [List.take_succ_eq_append_getElem h,fK h,List.flatten_append,List.flatten_singleton]
theorem yi (ls:List (List (U Qd))):ctn ls ls.length=ls.flatten:=by unfold ctn; rw [List.take_length]
theorem ctn_le (ls:List (List (U Qd))) (s:Nat):(ctn ls s).length≤ls.flatten.length:=by
 unfold ctn
 have h:=congrArg List.length (congrArg List.flatten (List.take_append_drop s ls))
 rw [List.flatten_append,List.length_append] at h
 omega
attribute [irreducible] ctn
theorem ym (ls:List (List (U Qd))) (svs:List SLV) (sv:Value) (hn:svs.length=ls.length) (hl:ls.flatten.length≤1000000) (hc:ls.length≤100) (w0:World) (hv:∀ i,i < ls.length→View w0 (gt svs i).v (gt ls i)) (hsv:View w0 sv svs) :
 Calls Tryz.prog 176 #[sv] w0 (RetR w0 126 ls.flatten True):=by
 refine enter (N:=36) Tryz.func176 rfl rfl ?_; intro ac h
 haveI:On:=⟨trivial⟩
 have hlen:=hsv.len
 have c0:(ctn ls 0).length=0:=by unfold ctn; rfl
 refine gz h <| (W) ?_; clear h; intro _ _ h
 refine wp_loop_ghost (fun n_ a_ w_=>∃ (s:Nat),(ls.length - s < n_)∧(s≤ls.length)∧St w0 36 [(0,sv),(3,iN (ctn ls s).length),(9,sv),(10,iN svs.length),(11,iN s)] [] a_ w_) (ls.length+1) ⟨0,by omega,by omega,by rw [c0]; exact h.rs⟩ ?_
 clear h; rintro n1 _ _ ⟨s,hm1,hs,h⟩
 obtain ⟨m1,rfl⟩:∃ m,n1=m+1:=⟨n1 - 1,by omega⟩
 refine gz h <| (ai) ?_ ?_ <;> clear h <;> intro _ _ h hc1
 ·
  have hd1:=of_decide_eq_true hc1
  have hx:=(hv s og).sl
  have hs1:=u2 (show s < ls.length by omega)
  have hs2:=ctn_le ls (s+1)
  have hs3:(ctn ls (s+1)).length=(ctn ls s).length+(gt ls s).length:=by rw [hs1,List.length_append]
  refine gz h <| (ai) ?_ ?_ <;> clear h <;> intro _ _ h hc2
  ·
   have:=of_decide_eq_true hc2
   omega
  ·
   exact (nx h) fun _ _ h=>by exact ⟨m1,by omega,s+1,by omega,by omega,by rw [hs3]; exact h.rs⟩
 ·
  have hd1:=of_decide_eq_false hc1
  obtain rfl:s=ls.length:=by omega
  rw [yi] at h
  refine gz h <| (W) ?_; clear h; intro _ _ h
  refine ky (xs:=([]:List (U Qd))) h (ck Tryz.call242 rfl) (fun w_ hB_ hS_=>grow_ct ls.flatten.length hl w_) rfl ?_; clear h; intro gv _ _ _ h
  have e0:ctn ls 0=[]:=by unfold ctn; rfl
  refine gz h <| (W) ?_; clear h; intro _ _ h
  refine wp_loop_ghost (fun n_ a_ w_=>∃ (s:Nat) (v:Value),(ls.length - s < n_)∧(s≤ls.length)∧St w0 36 [(0,sv),(6,v),(25,sv),(26,iN svs.length),(27,iN s)] [.row (α:=U Qd) 126 v (ctn ls s)] a_ w_) (ls.length+1) ⟨0,gv,by omega,by omega,by rw [e0]; exact h.re [0]⟩ ?_
  clear h; rintro n2 _ _ ⟨s,v,hm2,hs,h⟩
  obtain ⟨m2,rfl⟩:∃ m,n2=m+1:=⟨n2 - 1,by omega⟩
  refine gz h <| (ai) ?_ ?_ <;> clear h <;> intro _ _ h hc2
  ·
   have hd2:=of_decide_eq_true hc2
   have hw:=hv s og
   have hx:=hw.sl
   have hs1:=u2 (show s < ls.length by omega)
   have hs2:=ctn_le ls (s+1)
   have hs3:(ctn ls (s+1)).length=(ctn ls s).length+(gt ls s).length:=by rw [hs1,List.length_append]
   refine gz h <| (W) ?_; clear h; intro _ _ h
   refine on1 h 0 rfl (s_appV (xs:=ctn ls s) (ys:=gt ls s) slt50 hw rfl rfl og) rfl ?_; clear h; intro v2 _ _ _ h
   exact (nx h) fun _ _ h=>by exact ⟨m2,by omega,s+1,v2,by omega,by omega,by rw [hs1]; exact h.re [0]⟩
  ·
   have hd2:=of_decide_eq_false hc2
   obtain rfl:s=ls.length:=by omega
   rw [yi] at h
   exact (rx h) fun _ _ h=>(h.retR 0 rfl trivial)
theorem slt315:SlT Tryz.prog 315 50 1 24 [.slice none 0 0]:=⟨Tryz.underlying315,Tryz.t50,_,Tryz.type50,rfl,rfl,rfl,rfl,rfl,by decide,by decide⟩
theorem uU (a b:List (U Qd)):[a,b].flatten=a++b:=by simp
theorem concat2 {a b:List (U Qd)} {av bv sv:Value} {ha:yQ av} {hb:yQ bv} (hl:a.length+b.length≤1000000) {w0:World} (hav:View w0 av a) (hbv:View w0 bv b) (hsv:View w0 sv [(⟨av,ha⟩:SLV),(⟨bv,hb⟩:SLV)]):Calls Tryz.prog 176 #[sv] w0 (RetR w0 126 (a++b) True):=by
 have h:=ym [a,b] [(⟨av,ha⟩:SLV),(⟨bv,hb⟩:SLV)] sv rfl (by rw [uU,List.length_append]; exact hl) (by show 2≤100; decide) w0 (fun i hi=>by
  have hi:i < 2:=hi
  rcases (by omega:i=0∨i=1) with rfl | rfl
  ·exact hav
  ·exact hbv) hsv
 rw [uU] at h; exact h
theorem View.isl {α:Type} [Cod α] {w:World} {sv:Value} {xs:List α} (h:View w sv xs):yQ sv:=h.sl.is
def dc (a b:List (U Qd)):List (U Qd)×Int:=bh (a++b)
theorem nh (a:List (U Qd)) (av:Value) (b:List (U Qd)) (bv:Value) (hl:a.length+b.length≤300) (za:All (gW 30) a) (zb:All (gW 30) b) (w0:World) (hav:View w0 av a) (hbv:View w0 bv b) :
 Calls Tryz.prog 74 #[(.iface 55 (.agg #[])),av,bv] w0 (RetT w0 126 (dc a b).1 [.int .i64 ((dc a b).2)] (All (gW 20) ((dc a b).1)∧(dc a b).1.length≤900)):=by
 refine enter (N:=16) Tryz.func74 rfl rfl ?_; intro ac h
 haveI:On:=⟨trivial⟩
 refine gz h <| (W) ?_; clear h; intro _ _ h
 refine nw h (cB (α:=SLV) (xs:=[.tmp 9,.tmp 10]) (vs:=[av,bv]) [⟨av,hav.isl⟩,⟨bv,hbv.isl⟩] slt315 rfl (by obtain ⟨_,_,_,ha⟩:=hav.isl; obtain ⟨_,_,_,hb⟩:=hbv.isl; subst ha; subst hb; rfl) rfl DC) rfl ?_; clear h; intro ss _ _ _ h
 refine ky (xs:=a++b) h (ck Tryz.call176 rfl) (fun w_ hB_ hS_=>concat2 og (hav.below hB_) (hbv.below hB_) (row_view hS_ 0 rfl)) rfl ?_; clear h; intro cv _ _ _ h
 have hla:(a++b).length≤300:=by rw [List.length_append]; exact hl
 refine yy (vs:=[.int .i64 ((bh (a++b)).2)]) (xs:=(bh (a++b)).1) h (ck Tryz.call55 rfl) (fun w_ hB_ hS_=>er (a++b) cv hla (All.app za zb) w_ (row_view hS_ 0 rfl)) rfl ?_; clear h; intro nv _ _ hp h
 exact (rx h) fun _ _ h=>(by unfold dc; exact h.retT 0 rfl rfl ⟨hp.1,by have:=hp.2; omega⟩)
attribute [irreducible] dc
end Go.Sx
namespace Go.Sx
theorem quads_rc {t:GR} (ht:Tm t) {f g:Qd} (hf:DOk f) (hg:DOk g) (h:aE f g t=true):au f t=au g t:=by
 have s:aE f g t=fM f g t:=by unfold aE; rfl
 have r:∀ f t,au f t=bY f t:=fun _ _=>by unfold au; rfl
 rw [s,kI hf hg (ma ht)] at h
 rw [r,r,sj hf hg (ma ht),h]
theorem quq {n m:List (U Qd)} (hn:NF aW aE au n) (hm:NF aW aE au m) (hDn:∀ v∈n,DOk v.f) (hDm:∀ v∈m,DOk v.f) (hS:Sem aE n m):n=m :=
 xy quads_ru (fun t ht f g hf hg h=>quads_rc ht hf hg h) (fun a=>(gC a a).2 rfl) hn hm hDn hDm hS
theorem vL {n:List (U Qd)} (hW:∀ x∈n,Wv x.iv∧DOk x.f) (hD:n.Pairwise fun a b=>Dj a.iv b.iv):∃ N,bh n=(N,0)∧NFs n N:=by
 obtain ⟨s1,s2⟩:=iX (fun x hx=>(hW x hx).1.1)
 have hs:=ns (fun x hx=>(hW x hx).1) hD s1 s2
 have hWs:∀ x∈ao n,Wv x.iv∧DOk x.f:=fun x hx=>hW x (s1.mem_iff.1 hx)
 obtain ⟨e1,e2⟩:=oF (fun u hu=>(hW u hu).1.1) s1 (hs.imp_of_mem fun ha hb h=>kU_lt (hWs _ ha).1 (hWs _ hb).1 h)
 obtain ⟨N,h1,h2⟩:=sy hWs hs
 obtain ⟨N',k1,k2,k3,k4⟩:=xw hW hD
 have hN:bo (ao n)=(N,0):=by rw [← h1]; exact (mN ((nt (fun x hx=>(hWs x hx).1) hs).1.trans (nt (fun x hx=>(hWs x hx).1) hs).2.symm)).symm
 have hS:Sem aE n (ao n) :=
  ⟨fun t ht u hu hi=>⟨u,s1.mem_iff.1 hu,hi,quads_ru.refl t ht _ (hWs u hu).2⟩,fun q u hu hi=>⟨u,s1.mem_iff.1 hu,hi,rfl⟩,fun t ht w hw hi=>⟨w,s1.mem_iff.2 hw,hi,quads_ru.refl t ht _ (hW w hw).2⟩,fun q w hw hi=>⟨w,s1.mem_iff.2 hw,hi,rfl⟩⟩
 have hSN:=hS.trans quads_ru (fun u hu=>(hW u hu).2) (fun u hu=>(hWs u hu).2) h2.ok h2.sem
 have e:=quq h2.nf k2 h2.ok k3 ((hSN.symm quads_ru (fun u hu=>(hW u hu).2) h2.ok).trans quads_ru h2.ok (fun u hu=>(hW u hu).2) k3 k4)
 refine ⟨N,by rw [mN (e1.trans e2.symm),k1,e],h2.nf,h2.ok,hSN,by have:=h2.len; rw [s1.length_eq] at this; exact this,fun x hx=>?_⟩
 obtain ⟨w,hw,h⟩:=h2.fn x hx
 exact ⟨w,s1.mem_iff.1 hw,h⟩
theorem Sem.app {n n' N N':List (U Qd)} (h:Sem aE n N) (h':Sem aE n' N'):Sem aE (n++n') (N++N'):=by
 refine ⟨fun t ht u hu hi=>?_,fun q u hu hi=>?_,fun t ht u hu hi=>?_,fun q u hu hi=>?_⟩
 all_goals rcases List.mem_append.1 hu with hu | hu
 ·obtain ⟨w,a,b⟩:=h.s1 t ht u hu hi; exact ⟨w,List.mem_append_left _ a,b⟩
 ·obtain ⟨w,a,b⟩:=h'.s1 t ht u hu hi; exact ⟨w,List.mem_append_right _ a,b⟩
 ·obtain ⟨w,a,b⟩:=h.s2 q u hu hi; exact ⟨w,List.mem_append_left _ a,b⟩
 ·obtain ⟨w,a,b⟩:=h'.s2 q u hu hi; exact ⟨w,List.mem_append_right _ a,b⟩
 ·obtain ⟨w,a,b⟩:=h.c1 t ht u hu hi; exact ⟨w,List.mem_append_left _ a,b⟩
 ·obtain ⟨w,a,b⟩:=h'.c1 t ht u hu hi; exact ⟨w,List.mem_append_right _ a,b⟩
 ·obtain ⟨w,a,b⟩:=h.c2 q u hu hi; exact ⟨w,List.mem_append_left _ a,b⟩
 ·obtain ⟨w,a,b⟩:=h'.c2 q u hu hi; exact ⟨w,List.mem_append_right _ a,b⟩
theorem dj_of {x y:Iv} (hx:Wv x) (hy:Wv y) (h:∀ q,((∃ t,Tm t∧q=2*tk t)∨∃ k,q=2*k+1)→¬ (inU x q∧inU y q)):Dj x y:=by
 have a:=hx.le
 have b:=hy.le
 by_cases e:dL x≤dL y
 ·left
  have:=h (dL y) (by rcases i4 y with ⟨_,e⟩ | ⟨_,e⟩; exact .inl ⟨_,hy.1.1,e⟩; exact .inr ⟨_,e⟩)
  unfold inU at this
  omega
 ·right
  have:=h (dL x) (by rcases i4 x with ⟨_,e⟩ | ⟨_,e⟩; exact .inl ⟨_,hx.1.1,e⟩; exact .inr ⟨_,e⟩)
  unfold inU at this
  omega
theorem Sem.place {n N:List (U Qd)} (h:Sem aE n N) {u:U Qd} (hu:u∈N) {q:Nat} (hq:(∃ t,Tm t∧q=2*tk t)∨∃ k,q=2*k+1) (hi:inU u.iv q):∃ w∈n,inU w.iv q:=by
 rcases hq with ⟨t,ht,rfl⟩ | ⟨k,rfl⟩
 ·obtain ⟨w,a,b,_⟩:=h.s1 t ht u hu hi; exact ⟨w,a,b⟩
 ·obtain ⟨w,a,b,_⟩:=h.s2 k u hu hi; exact ⟨w,a,b⟩
end Go.Sx
namespace Go.Sx
theorem rs_in {l:List (U Qd)} {d:List Iv} {i:Nat} (o:List (U Qd)) (hi:i < l.length):∀ n k out,k≤d.length→d.length - k < n→out=rsA l d i k→br (fun s=>cx l d o i s.1 s.2) n (out,k)=.inl (rsA l d (i+1) 0,d.length)
 | 0,k,out,_,hn,_=>by omega
 | n+1,k,out,hk,hn,ho=>by
  by_cases h:k < d.length
  ·have hb:cx l d o i out k=.go (rsA l d i (k+1),k+1):=by
    unfold cx
    rw [decide_eq_true (by omega:(k:Int) < (d.length:Int)),cond_true]
    cases hm:(bg (gt l i).iv (gt d k)).2 with
    | true=>rw [cond_true,ho,w3 hi h hm]
    | false=>rw [cond_false,ho,rsA_no hi h hm]
   rw [eW n (show (fun s:List (U Qd)×Nat=>cx l d o i s.1 s.2) (out,k)=_ from hb)]
   exact rs_in o hi n (k+1) _ h og rfl
  ·have e:k=d.length:=by omega
   have hb:cx l d o i out k=.out (out,k):=by
    unfold cx
    rw [decide_eq_false (by omega:¬ (k:Int) < (d.length:Int))]; rfl
   rw [fF n (show (fun s:List (U Qd)×Nat=>cx l d o i s.1 s.2) (out,k)=_ from hb),ho,e,w7]
theorem rs_out {l:List (U Qd)} {d:List Iv}:∀ n i out,i≤l.length→l.length - i < n→out=rsA l d i 0→br (fun s=>cz l d s.1 s.2) n (out,i)=.inl (rsL l d,l.length)
 | 0,i,out,_,hn,_=>by omega
 | n+1,i,out,hi,hn,ho=>by
  by_cases h:i < l.length
  ·have hb:cz l d out i=.go (rsA l d (i+1) 0,i+1):=by
    unfold cz
    rw [decide_eq_true (by omega:(i:Int) < (l.length:Int)),cond_true,io (rs_in out h _ 0 out (Nat.zero_le _) og ho)]
    rfl
   rw [eW n (show (fun s:List (U Qd)×Nat=>cz l d s.1 s.2) (out,i)=_ from hb)]
   exact rs_out n (i+1) _ h og rfl
  ·have e:i=l.length:=by omega
   have hb:cz l d out i=.out (out,i):=by
    unfold cz
    rw [decide_eq_false (by omega:¬ (i:Int) < (l.length:Int))]; rfl
   rw [fF n (show (fun s:List (U Qd)×Nat=>cz l d s.1 s.2) (out,i)=_ from hb),ho,e]
   rfl
theorem tM (l:List (U Qd)) (d:List Iv):ba l d=de (rsL l d):=by
 unfold ba
 refine (io (rs_out _ 0 [] (Nat.zero_le _) og rfl)).trans ?_
 unfold jk
 rfl
theorem tR (l:List (U Qd)):de l=(bh l).1:=by unfold de; rfl
theorem si {l:List (U Qd)} {d:List Iv} (hl:Od l) (hD:∀ x∈l,DOk x.f) (hd:Cn d):NFs (rsL l d) (ba l d):=by
 obtain ⟨N,h1,h2⟩:=sy (n:=rsL l d) (fun x hx=>by
  obtain ⟨u,hu,e,w,_⟩:=qE hl hd hx
  exact ⟨w,by rw [e]; exact hD u hu⟩) (rs_ord hl hd)
 rw [tM,tR,h1]
 exact h2
end Go.Sx
namespace Go.Sx
theorem vO (l:List Stp):∀ x∈nb l,DOk x.f:=(wd l).2
section
variable (l:List Stp) {d:List Iv} (hd:Cn d)
include hd
theorem q8:NFs (rsL (nb l) d) (ba (nb l) d):=si (mr l) (vO l) hd
theorem r_bf:∀ x∈rsL (nb l) d,Wv x.iv∧Bf 2199023255552 x.f:=fun x hx=>by
 obtain ⟨u,hu,e,w,_⟩:=qE (mr l) hd hx
 exact ⟨w,by rw [e]; exact nb_bf l u hu⟩
theorem r_z:All (gW 30) (rsL (nb l) d):=fun x hx=>⟨szv_of (r_bf l hd x hx).1,((r_bf l hd x hx).2.mono DC).sz (n:=11) DC⟩
theorem r_z2:All (gW 30) (ba (nb l) d):=fun x hx=>by
 have h:=q8 l hd
 obtain ⟨w,hw,hf⟩:=h.fn x hx
 have hb:=(r_bf l hd w hw).2
 refine ⟨szv_of (h.nf.wv x hx),Bf.sz (n:=36) ?_ DC⟩
 rcases hf with e | ⟨t,ht,e⟩
 ·rw [e]; exact hb.mono (by decide +kernel)
 ·rw [e]; exact (red_bf DC hb ht).mono (by decide +kernel)
theorem w8:(rsL (nb l) d).length≤16+d.length:=by
 have:=rs_len2 (mr l) hd
 have:=nb_len l (yC l)
 omega
theorem tI:(ba (nb l) d).length≤16+d.length:=Nat.le_trans (q8 l hd).len (w8 l hd)
theorem r_chk (h:d.length≤200):dr (ba (nb l) d)=0:=yw (by have:=tI l hd; omega) (q8 l hd).nf (q8 l hd).ok
theorem r_at {t:GR} (ht:Tm t):(dG (ba (nb l) d) t).2=((bX (nb l) t).2 && fT d t) ∧
 ((dG (ba (nb l) d) t).2=true→fM (dG (ba (nb l) d) t).1 (bX (nb l) t).1 t=true):=by
 have hs:=q8 l hd
 have hc:=rM (fun i hi=>(hd.wv i hi).1) ht
 rcases At_spec hs.nf.wv hs.nf.ord ht with ⟨y,hy,hj,e'⟩ | ⟨hn',e'⟩
 ·obtain ⟨w,hw,h1,h2⟩:=hs.sem.s1 t ht y hy hj
  obtain ⟨u,hu,hf,_,hq,_⟩:=qE (mr l) hd hw
  obtain ⟨p1,p2⟩:=hq _ h1
  rcases qA (fun u hu=>((mr l).wv u hu).1) ht with ⟨x,hx,hi,e⟩ | ⟨hn,e⟩
  ·have q1:u=x:=(wd l).1.one hu hx p1 hi
   subst q1
   rw [e',e,hc.2 p2]
   refine ⟨rfl,fun _=>?_⟩
   rw [hf] at h2
   unfold aE at h2; exact h2
  ·exact absurd p1 (hn u hu)
 ·rw [e']
  refine ⟨?_,fun h=>by cases h⟩
  rcases qA (fun u hu=>((mr l).wv u hu).1) ht with ⟨x,hx,hi,e⟩ | ⟨hn,e⟩
  ·cases h:fT d t with
   | false=>rw [Bool.and_false]
   | true =>
    obtain ⟨w,hw,hw1,_⟩:=rs_at (mr l) hd hx hi (hc.1 h)
    obtain ⟨y,hy,hj,_⟩:=hs.sem.c1 t ht w hw hw1
    exact absurd hj (hn' y hy)
  ·rw [e,Bool.false_and]
theorem r_in {u:U Qd} (hu:u∈ba (nb l) d) {q:Nat} (hq:(∃ t,Tm t∧q=2*tk t)∨∃ k,q=2*k+1) (hi:inU u.iv q):inP d q:=by
 obtain ⟨w,hw,h⟩:=(q8 l hd).sem.place hu hq hi
 obtain ⟨_,_,_,_,h2,_⟩:=qE (mr l) hd hw
 exact (h2 q h).2
end
theorem dj_app {a b:List (U Qd)} (ha:NF aW aE au a) (hb:NF aW aE au b) (h:∀ x∈a,∀ y∈b,Dj x.iv y.iv):(a++b).Pairwise fun x y=>Dj x.iv y.iv :=
 List.pairwise_append.2 ⟨ha.ord.imp fun h=>.inl h,hb.ord.imp fun h=>.inl h,h⟩
theorem rest_sem (l:List Stp) {d d':List Iv} (hd:Cn d) (hd':Cn d') (h:∀ u∈nb l,∀ q,inU u.iv q→inP d q∨inP d' q):Sem aE (rsL (nb l) d++rsL (nb l) d') (nb l):=by
 have mem:∀ {w:U Qd},w∈rsL (nb l) d++rsL (nb l) d'→∃ u∈nb l,w.f=u.f∧∀ q,inU w.iv q→inU u.iv q:=fun {w} hw=>by
  rcases List.mem_append.1 hw with hw | hw
  ·obtain ⟨u,a,b,_,c,_⟩:=qE (mr l) hd hw; exact ⟨u,a,b,fun q hq=>(c q hq).1⟩
  ·obtain ⟨u,a,b,_,c,_⟩:=qE (mr l) hd' hw; exact ⟨u,a,b,fun q hq=>(c q hq).1⟩
 have at_:∀ {u:U Qd},u∈nb l→∀ {q},inU u.iv q→∃ w∈rsL (nb l) d++rsL (nb l) d',inU w.iv q∧w.f=u.f:=fun {u} hu {q} hq=>by
  rcases h u hu q hq with h | h
  ·obtain ⟨w,a,b⟩:=rs_at (mr l) hd hu hq h; exact ⟨w,List.mem_append_left _ a,b⟩
  ·obtain ⟨w,a,b⟩:=rs_at (mr l) hd' hu hq h; exact ⟨w,List.mem_append_right _ a,b⟩
 refine ⟨fun t ht u hu hi=>?_,fun q u hu hi=>?_,fun t ht w hw hi=>?_,fun q w hw hi=>?_⟩
 ·obtain ⟨w,a,b,c⟩:=at_ hu hi; exact ⟨w,a,b,by rw [c]; exact quads_ru.refl t ht _ (vO l u hu)⟩
 ·obtain ⟨w,a,b,c⟩:=at_ hu hi; exact ⟨w,a,b,c.symm⟩
 ·obtain ⟨u,a,b,c⟩:=mem hw; exact ⟨u,a,c _ hi,by rw [b]; exact quads_ru.refl t ht _ (vO l u a)⟩
 ·obtain ⟨u,a,b,c⟩:=mem hw; exact ⟨u,a,c _ hi,b.symm⟩
theorem r_join (l:List Stp) {d:List Iv} (hd:Cn d):bh (ba (nb l) d++ba (nb l) (dW (bU (nb l)) d))=(nb l,0):=by
 obtain ⟨c1,c2⟩:=uY (mr l).wv
 obtain ⟨m1,m2⟩:=sI c1.wv hd.wv
 have A:=q8 l hd
 have B:=q8 l m1
 have hok:∀ x∈ba (nb l) d++ba (nb l) (dW (bU (nb l)) d),Wv x.iv∧DOk x.f:=fun x hx=>by
  rcases List.mem_append.1 hx with h | h
  ·exact ⟨A.nf.wv x h,A.ok x h⟩
  ·exact ⟨B.nf.wv x h,B.ok x h⟩
 obtain ⟨N,h1,h2⟩:=vL hok (dj_app A.nf B.nf fun x hx y hy=>dj_of (A.nf.wv x hx) (B.nf.wv y hy) fun q hq h =>
  ((m2 q).1 (r_in l m1 hy hq h.2)).2 (r_in l hd hx hq h.1))
 rw [h1]
 have hrs:∀ v∈rsL (nb l) d++rsL (nb l) (dW (bU (nb l)) d),DOk v.f:=fun v hv=>by
  rcases List.mem_append.1 hv with h | h
  ·exact (r_bf l hd v h).2.1
  ·exact (r_bf l m1 v h).2.1
 have S1:=Sem.app A.sem B.sem
 have S2:=rest_sem l hd m1 fun u hu q hq=>by
  by_cases e:inP d q
  ·exact .inl e
  ·exact .inr ((m2 q).2 ⟨(c2 q).2 ⟨u,hu,hq⟩,e⟩)
 have S3:=(h2.sem.symm quads_ru (fun u hu=>(hok u hu).2) h2.ok).trans quads_ru h2.ok (fun u hu=>(hok u hu).2) (vO l)
  ((S1.symm quads_ru hrs (fun u hu=>(hok u hu).2)).trans quads_ru (fun u hu=>(hok u hu).2) hrs (vO l) S2)
 have e:N=nb l:=quq h2.nf (wd l).1 h2.ok (vO l) S3
 rw [e]
def pv (m:List Stp):List Iv:=eN ((aq m).map fun x=>x.iv)
theorem pv_w (m:List Stp):∀ i∈(aq m).map fun x=>x.iv,Wv i:=fun i hi=>by
 obtain ⟨x,hx,rfl⟩:=List.mem_map.1 hi
 exact (nQ m x hx).1
theorem pv_cn (m:List Stp):Cn (pv m):=(qJ (pv_w m)).1
end Go.Sx
