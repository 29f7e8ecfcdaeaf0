import Derived.Test.YtbenbmdkhcfcfaaGreatDoorC1
import Derived.Shelf.Spec.SlicesGrow
import Derived.Test.YtbenbmdkhcfcfaaGreatDoorCo
set_option linter.unusedVariables false
set_option linter.unusedSimpArgs false
set_option maxRecDepth 100000
set_option maxHeartbeats 40000000
namespace Go.Sx
section
variable {α:Type} [Inhabited α]
def dU (d:List Iv):List (U Unit):=d.map fun i=>⟨i,()⟩
def unB {α β:Type} (x:Bt α β):U α:=⟨x.iv,x.f⟩
def rsA (l:List (U α)) (d:List Iv) (i k:Nat):List (U α):=(rfA (rfQ l (dU d)) d.length i k).map unB
theorem yw {d:List Iv} {k:Nat} (h:k < d.length):gt (dU d) k=⟨gt d k,()⟩:=by
 have h2:k < (dU d).length:=by unfold dU; rw [List.length_map]; exact h
 rw [fL h2,fL h]
 exact List.getElem_map _
theorem xn {l:List (U α)} {d:List Iv} (i:Nat):rsA l d i d.length=rsA l d (i+1) 0:=by unfold rsA; rw [tR]
theorem xm {l:List (U α)} {d:List Iv} {i k:Nat} (hi:i < l.length) (hk:k < d.length) (h:(bf (gt l i).iv (gt d k)).2=true):rsA l d i k++[(⟨(bf (gt l i).iv (gt d k)).1,(gt l i).f⟩:U α)]=rsA l d i (k+1):=by
 unfold rsA
 rw [rfA_k,List.map_append]
 unfold rfQ
 rw [decide_eq_true hi,yw hk,h]
 rfl
theorem rsA_no {l:List (U α)} {d:List Iv} {i k:Nat} (hi:i < l.length) (hk:k < d.length) (h:(bf (gt l i).iv (gt d k)).2=false):rsA l d i k=rsA l d i (k+1):=by
 unfold rsA
 rw [rfA_k,List.map_append]
 unfold rfQ
 rw [decide_eq_true hi,yw hk,h]
 exact (List.append_nil _).symm
theorem dU_od {d:List Iv} (h:Cn d):Od (dU d):=by
 refine ⟨fun x hx=>?_,?_⟩
 ·obtain ⟨i,hi,rfl⟩:=List.mem_map.1 hx
  exact h.wv i hi
 ·refine List.pairwise_map.2 (h.sep.imp fun {a b} hab=>?_)
  have h1:=mu a
  have h2:=kO b
  show ec a < (dL b:Int)
  omega
def rsL (l:List (U α)) (d:List Iv):List (U α):=rsA l d l.length 0
theorem rs_ord {l:List (U α)} {d:List Iv} (hl:Od l) (hd:Cn d):(rsL l d).Pairwise fun a b=>ec a.iv < (dL b.iv:Int):=by
 have:=rf_ord hl (dU_od hd)
 rw [show (dU d).length=d.length by unfold dU; exact List.length_map _] at this
 exact List.pairwise_map.2 this
theorem qG {l:List (U α)} {d:List Iv} (hl:Od l) (hd:Cn d) {x:U α} (hx:x∈rsL l d):∃ u∈l,x.f=u.f∧Wv x.iv∧(∀ q,inU x.iv q→inU u.iv q∧inP d q)∧∃ i∈d,(∀ q,inU x.iv q↔inU u.iv q∧inU i q):=by
 obtain ⟨y,hy,rfl⟩:=List.mem_map.1 hx
 have e:(dU d).length=d.length:=by unfold dU; exact List.length_map _
 rw [← e] at hy
 obtain ⟨i,k,hi,hk,hm,rfl⟩:=rf_mem.1 hy
 rw [e] at hk
 rw [yw hk] at hm ⊢
 have hu:gt l i∈l:=by rw [fL hi]; exact List.getElem_mem _
 have hv:gt d k∈d:=by rw [fL hk]; exact List.getElem_mem _
 obtain ⟨w,p⟩:=rD (hl.wv _ hu) (hd.wv _ hv) hm
 exact ⟨gt l i,hu,rfl,w,fun q hq=>⟨((p q).1 hq).1,gt d k,hv,ot.2 ((p q).1 hq).2⟩,gt d k,hv,p⟩
theorem rs_at {l:List (U α)} {d:List Iv} (hl:Od l) (hd:Cn d) {u:U α} (hu:u∈l) {q:Nat} (h1:inU u.iv q) (h2:inP d q):∃ x∈rsL l d,inU x.iv q∧x.f=u.f:=by
 obtain ⟨i,hi,e⟩:=uW hu
 obtain ⟨v,hv,h3⟩:=h2
 obtain ⟨k,hk,e2⟩:=uW hv
 cases hm:(bf (gt l i).iv (gt d k)).2 with
 | false =>
  rw [e,e2] at hm
  exact absurd ⟨h1,ot.1 h3⟩ (meet_no (hl.wv _ hu) (hd.wv _ hv) hm q)
 | true =>
  refine ⟨⟨(bf (gt l i).iv (gt d k)).1,(gt l i).f⟩,?_,?_,by rw [e]⟩
  ·have hx:(⟨(bf (gt l i).iv (gt d k)).1,(gt l i).f,()⟩:Bt α Unit)∈rfA (rfQ l (dU d)) (dU d).length l.length 0 :=
    rf_mem.2 ⟨i,k,hi,by unfold dU; rw [List.length_map]; exact hk,by rw [yw hk]; exact hm,by rw [yw hk]⟩
   rw [show (dU d).length=d.length by unfold dU; exact List.length_map _] at hx
   exact List.mem_map.2 ⟨_,hx,rfl⟩
  ·rw [e,e2] at hm ⊢
   exact ((rD (hl.wv _ hu) (hd.wv _ hv) hm).2 q).2 ⟨h1,ot.1 h3⟩
theorem tQ {β R:Type} [Inhabited β] {u:List (U α)} {v:List (U β)}:∀ (n i k:Nat) (out:List (Bt α β)) {st:List (Bt α β)×Nat×Nat},i≤u.length→k≤v.length→out.length≤i+k→bt (R:=R) (fun s=>rfB u v s.1 s.2.1 s.2.2) n (out,i,k)=.inl st→st.1.length≤u.length+v.length
 | 0,i,k,out,st,hi,hk,ho,h=>by
  have:(.inl (out,i,k):(List (Bt α β)×Nat×Nat) ⊕ R)=.inl st:=h
  cases this
  show out.length≤_
  omega
 | n+1,i,k,out,st,hi,hk,ho,h=>by
  by_cases hc:i < u.length∧k < v.length
  ·have hc2:((decide ((i:Int) < (u.length:Int))) && (decide ((k:Int) < (v.length:Int))))=true:=by
    rw [decide_eq_true (by omega:(i:Int) < (u.length:Int)),decide_eq_true (by omega:(k:Int) < (v.length:Int))]; rfl
   obtain ⟨o2,e,hl⟩:∃ o2:List (Bt α β),(rfB (R:=R) u v out i k=.go (o2,i+1,k)∨rfB (R:=R) u v out i k=.go (o2,i,k+1))∧o2.length≤out.length+1:=by
    unfold rfB
    rw [hc2,cond_true]
    cases (bf ((gt u i).iv) ((gt v k).iv)).2 <;> cases fx ((gt u i).iv) ((gt v k).iv)
    ·exact ⟨out,.inr rfl,Nat.le_succ _⟩
    ·exact ⟨out,.inl rfl,Nat.le_succ _⟩
    ·exact ⟨_,.inr rfl,by rw [List.length_append]; exact Nat.le_refl _⟩
    ·exact ⟨_,.inl rfl,by rw [List.length_append]; exact Nat.le_refl _⟩
   rcases e with e | e
   ·rw [eN n (show (fun s:List (Bt α β)×Nat×Nat=>rfB (R:=R) u v s.1 s.2.1 s.2.2) (out,i,k)=_ from e)] at h
    exact tQ n (i+1) k o2 hc.1 hk og h
   ·rw [eN n (show (fun s:List (Bt α β)×Nat×Nat=>rfB (R:=R) u v s.1 s.2.1 s.2.2) (out,i,k)=_ from e)] at h
    exact tQ n i (k+1) o2 hi hc.2 og h
  ·have e:rfB (R:=R) u v out i k=.out (out,i,k):=by
    unfold rfB
    have:((decide ((i:Int) < (u.length:Int))) && (decide ((k:Int) < (v.length:Int))))=false:=by
     rw [Bool.and_eq_false_iff,decide_eq_false_iff_not,decide_eq_false_iff_not]; omega
    rw [this]; rfl
   rw [fD n (show (fun s:List (Bt α β)×Nat×Nat=>rfB (R:=R) u v s.1 s.2.1 s.2.2) (out,i,k)=_ from e)] at h
   cases h
   show out.length≤_
   omega
theorem rf_len2 {β:Type} [Inhabited β] {u:List (U α)} {v:List (U β)} (hu:Od u) (hv:Od v):(rfA (rfQ u v) v.length u.length 0).length≤u.length+v.length:=by
 obtain ⟨st,e1,e2⟩:=nh (R:=Unit) hu hv ((u.length - 0)+(v.length - 0)+1) 0 0 [] (Nat.zero_le _) (Nat.zero_le _) og rfl (fun _ _ _ h=>absurd h (Nat.not_lt_zero _))
 rw [← e2]
 exact tQ (R:=Unit) _ 0 0 [] (Nat.zero_le _) (Nat.zero_le _) (Nat.zero_le _) e1
theorem rs_len2 {l:List (U α)} {d:List Iv} (hl:Od l) (hd:Cn d):(rsL l d).length≤l.length+d.length:=by
 have:=rf_len2 hl (dU_od hd)
 rw [show (dU d).length=d.length by unfold dU; exact List.length_map _] at this
 unfold rsL rsA
 rw [List.length_map]
 exact this
end
end Go.Sx
namespace Go.Sx
open Go Go.RowKit Go.Proofs
attribute [local irreducible] Code.wp wpList Rd gW ObS Ent
attribute [local irreducible] an bB ah aO az c8
def jm (l:List (U Qd)) (during:List Iv) (out:List (U Qd)) (x16:Nat):(List (U Qd)) :=
 (ce out)
def lG (l:List (U Qd)) (during:List Iv) (out:List (U Qd)) (x16:Nat) (out2:List (U Qd)) (x22:Nat):Nx ((List (U Qd))×Nat) (List (U Qd)) :=
 .go (out2,(x16+1))
def cw (l:List (U Qd)) (during:List Iv) (out:List (U Qd)) (x16:Nat) (out2:List (U Qd)) (x22:Nat):Nx ((List (U Qd))×Nat) (List (U Qd)) :=
 bif (decide ((x22:Int) < (during.length:Int))) then
  bif (bf ((gt l x16).iv) (gt during x22)).2 then
   .go ((out2++[(⟨(bf ((gt l x16).iv) (gt during x22)).1,(gt l x16).f⟩:U Qd)]),(x22+1))
  else
   .go (out2,(x22+1))
 else
  .out (out2,x22)
def cx (l:List (U Qd)) (during:List Iv) (out:List (U Qd)) (x16:Nat):Nx ((List (U Qd))×Nat) (List (U Qd)) :=
 bif (decide ((x16:Int) < (l.length:Int))) then
  fin (bt (fun s=>cw l during out x16 s.1 s.2) ((during.length - 0)+1) (out,0)) (fun s=>lG l during out x16 s.1 s.2) (fun r=>.ret r)
 else
  .out (out,x16)
def bE (l:List (U Qd)) (during:List Iv):(List (U Qd)) :=
 fin (bt (fun s=>cx l during s.1 s.2) ((l.length - 0)+1) ([],0)) (fun s=>jm l during s.1 s.2) (fun r=>r)
theorem lF (l:List (U Qd)) (lv:Value) (during:List Iv) (duringv:Value) (hl:l.length≤20) (hd:during.length≤200) (hz:All (gk 30) (rsA l during l.length 0)) (hrl:(rsA l during l.length 0).length≤300) (zl:All (gk 30) l) (zduring:All (SzV 30) during) (w0:World) (hlv:View w0 lv l) (hduringv:View w0 duringv during):Calls Tryz.prog 78 #[(.iface 55 (.agg #[])),lv,duringv] w0 (RetR w0 126 (bE l during) (All (gk 20) (bE l during)∧(bE l during).length≤900)):=by
 refine enter (N:=46) Tryz.func78 rfl rfl ?_; intro ac h
 have hlenl:=hlv.len
 have hlenduring:=hduringv.len
 refine gz h <| (W) ?_; clear h; intro _ _ h
 replace h:=h.nilRow (α:=U Qd) 126
 obtain ⟨X1,hX1⟩:∃ X,bt (fun s=>cx l during s.1 s.2) ((l.length - 0)+1) ([],0)=X:=⟨_,rfl⟩
 refine wp_loop_ghost (fun n_ a_ w_=>∃ (out:List (U Qd)) (x16:Nat) (outv:Value),((l.length - x16) < n_)∧(bt (fun s=>cx l during s.1 s.2) n_ (out,x16)=X1)∧(x16≤l.length)∧(out=rsA l during x16 0)∧(out.length≤200*x16)∧St w0 46 [(0,(.iface 55 (.agg #[]))),(2,duringv),(7,outv),(14,lv),(15,iN l.length),(16,iN x16)] [.row (α:=U Qd) 126 outv out] a_ w_) ((l.length - 0)+1) ⟨[],0,(.slice none 0 0),og,hX1,og,rfl,og,h.rs⟩ ?_
 clear h; rintro n1 _ _ ⟨out,x16,outv,hm1,hL1,hx16,hu,hol,h⟩
 obtain ⟨m1,rfl⟩:∃ m,n1=m+1:=⟨n1 - 1,by omega⟩
 refine gz h <| (ai) ?_ ?_ <;> clear h <;> intro _ _ h hc1
 ·
  have hd1:=of_decide_eq_true hc1
  refine gz h <| (xa) fun b1=>(W) ?_; clear h; intro _ _ h
  obtain ⟨X2,hX2⟩:∃ X,bt (fun s=>cw l during out x16 s.1 s.2) ((during.length - 0)+1) (out,0)=X:=⟨_,rfl⟩
  refine wp_loop_ghost (fun n_ a_ w_=>∃ (out2:List (U Qd)) (x22:Nat) (out2v:Value),((during.length - x22) < n_)∧(bt (fun s=>cw l during out x16 s.1 s.2) n_ (out2,x22)=X2)∧(x22≤during.length)∧(out2=rsA l during x16 x22)∧(out2.length≤200*x16+x22)∧St w0 46 [(0,(.iface 55 (.agg #[]))),(2,duringv),(7,out2v),(9,(ptr b1 0)),(14,lv),(15,iN l.length),(16,iN x16),(20,duringv),(21,iN during.length),(22,iN x22)] [.blk b1 (cUD (gt l x16)) 126,.row (α:=U Qd) 126 out2v out2] a_ w_) ((during.length - 0)+1) ⟨out,0,outv,og,hX2,og,hu,og,h.rs⟩ ?_
  clear h; rintro n2 _ _ ⟨out2,x22,out2v,hm2,hL2,hx22,hu2,hol2,h⟩
  obtain ⟨m2,rfl⟩:∃ m,n2=m+1:=⟨n2 - 1,by omega⟩
  refine gz h <| (ai) ?_ ?_ <;> clear h <;> intro _ _ h hc2
  ·
   have hd2:=of_decide_eq_true hc2
   refine gz h <| (xa) fun b2=>(xk (qs ((gt l x16).iv) (gt during x22) 10 og (All.gt zl (bL _)).1 (All.gt zduring (SzV_d _)))) <| (xa) fun b3=>(ai) ?_ ?_ <;> clear h <;> intro _ _ h hc3
   ·
    refine gz h <| (xo (hs:=by exact bN jh exs rfl (v:=(vUD (⟨(bf ((gt l x16).iv) (gt during x22)).1,(gt l x16).f⟩:U Qd))) rfl)) <| (W) ?_; clear h; intro _ _ h
    refine nw h (cA (α:=U Qd) (xs:=[.tmp 38]) (vs:=[(vUD (⟨(bf ((gt l x16).iv) (gt during x22)).1,(gt l x16).f⟩:U Qd))]) [(⟨(bf ((gt l x16).iv) (gt during x22)).1,(gt l x16).f⟩:U Qd)] slt50 rfl rfl rfl DC) rfl ?_; clear h; intro sv3 _ _ _ h
    refine on2 h 4 0 rfl rfl (fe (xs:=out2) (ys:=[(⟨(bf ((gt l x16).iv) (gt during x22)).1,(gt l x16).f⟩:U Qd)]) slt50 (fun w hs=>(row_view hs 0 rfl)) rfl rfl og) rfl ?_; clear h; intro sv4 _ _ _ h
    have hg:=bI hL2 pt
    exact (nx h) fun _ _ h=>by exact ⟨m2,og,_,_,_,og,hg,og,by rw [hu2]; exact xm og og hc3,og,h.re [4,0]⟩
   ·
    have hg:=bI hL2 pt
    exact (nx h) fun _ _ h=>by exact ⟨m2,og,_,_,_,og,hg,og,by rw [hu2]; exact rsA_no og og hc3,og,h.re [2,3]⟩
  ·
   have hd2:=of_decide_eq_false hc2
   have hx2:=cG hL2 pt
   have hg:=bI hL1 pt
   exact (nx h) fun _ _ h=>by exact ⟨m1,og,_,_,_,og,hg,og,by rw [hu2,show x22=during.length by omega]; exact xn _,og,h.re [1]⟩
 ·
  have hd1:=of_decide_eq_false hc1
  have hx1:=cG hL1 pt
  have hu2:out=rsA l during l.length 0:=by rw [hu,show x16=l.length by omega]
  have hnz:All (gk 30) out:=by rw [hu2]; exact hz
  have hnl:out.length≤300:=by rw [hu2]; exact hrl
  have hd:bE l during=ce out:=pt
  refine gz h <| (W) ?_; clear h; intro _ _ h
  refine jj (xs:=ce out) h (ck Tryz.call117 rfl) (fun w_ hB_ hS_=>jA out outv hnl hnz w_ (row_view hS_ 0 rfl)) rfl ?_; clear h; intro nv _ _ hp h
  exact (rx h) fun _ _ h=>(by rw [hd]; exact h.retR 0 rfl ⟨hp.1,by have:=hp.2; omega⟩)
attribute [irreducible] bE
end Go.Sx
namespace Go.Proofs
open Go.Shelf
def Tryz.layGrow_ren:Go.Shelf.Ren:=⟨fun | 4=>242 | n=>n,fun | 22=>50 | 25=>126 | n=>n,fun | n=>n⟩
theorem Tryz.layGrow:Go.Proofs.Lays8.n4 Tryz.prog Tryz.layGrow_ren:={
 mixed:=by kernel_rfl
 f4:=⟨Tryz.f242.name,by decide,Tryz.func242.trans (congrArg some (by kernel_rfl))⟩
 t0:=Tryz.underlying0
 a0:=Tryz.isAgg0
 z0:=Tryz.sizeOf0
 v0:=Tryz.zeroValue0
 t3:=Tryz.underlying3
 a3:=Tryz.isAgg3
 z3:=Tryz.sizeOf3
 v3:=Tryz.zeroValue3
 t4:=Tryz.underlying4
 a4:=Tryz.isAgg4
 z4:=Tryz.sizeOf4
 v4:=Tryz.zeroValue4
 t9:=Tryz.underlying9
 a9:=Tryz.isAgg9
 z9:=Tryz.sizeOf9
 v9:=Tryz.zeroValue9
 t20:=Tryz.underlying20
 a20:=Tryz.isAgg20
 z20:=Tryz.sizeOf20
 v20:=Tryz.zeroValue20
 t22:=Tryz.underlying50
 a22:=Tryz.isAgg50
 z22:=Tryz.sizeOf50
 v22:=Tryz.zeroValue50
}
end Go.Proofs
namespace Go.Sx
open Go Go.RowKit Go.Proofs
attribute [local irreducible] Code.wp wpList Rd gW ObS Ent
theorem grow_ct (n:Nat) (hn:n≤1000000) (w0:World):Calls Tryz.prog 242 #[.slice none 0 0,.int .i64 (n:Int)] w0 (RetR w0 126 ([]:List (U Qd)) True):=by
 by_cases h0:n=0
 ·subst h0
  refine (Any8.slices_Grow_room Tryz.layGrow none 0 0 0 w0 (Nat.le_refl _) DC DC DC).mono fun e w' h=>?_
  obtain ⟨rfl,rfl⟩:=h
  refine ⟨_,fun _=>False,rfl,⟨⟨_,_,rfl⟩,trivial⟩,Moves.same _ _,fun _=>False,fun _=>False,fun k=>by simp,fun _ h=>h.elim,fun _ h=>h.elim,⟨⟨by simp [flat],.inl ⟨rfl,rfl⟩⟩,fun k=>by simp [Value.ownBlock]⟩,fun _ h=>h⟩
 ·obtain ⟨i,z,h1,h2,h3,h4,h5,h6,h7,h8⟩:=slt50.inf
  refine (Any8.slices_Grow_grow Tryz.layGrow i z h1 h2 (by rw [h4]; decide) none 0 0 n [] w0 (Nat.le_refl _) og (by rw [h5]; omega) og (by simp) (fun _=>rfl) (fun a h=>by cases h)).mono fun e w' h=>?_
  obtain ⟨rfl,rfl⟩:=h
  have hG:=grownCap_ge w0 (0+n) 0 126
  have hG2:=grownCap_le_maxLen w0 (0+n) 0 126 (by unfold maxLen; omega)
  have hs:Array.size ((#[]:Array Value)++Builtin.zeroCells z.cells (0+n - 0)++Builtin.zeroCells z.cells (grownCap w0 (0+n) 0 126 - (0+n)))=grownCap w0 (0+n) 0 126*Cod.n (U Qd):=by
   have hz:z.cells.size=Cod.n (U Qd):=by have:=h6; rw [← h3] at this; exact (Array.length_toList ..).symm.trans this
   have k:∀ q,(Builtin.zeroCells z.cells q).size=q*Cod.n (U Qd):=fun q=>by unfold Builtin.zeroCells; rw [Array.size_map,Array.size_range,hz]
   rw [Array.size_append,Array.size_append,k,k,← hz]
   show 0+_+_=_
   rw [Nat.zero_add,← Nat.add_mul]
   congr 1; omega
  show RetR w0 126 ([]:List (U Qd)) True (.returned (.slice (some ⟨w0.heap.size,0,none⟩) 0 (grownCap w0 (0+n) 0 126))) (w0.drew.alloc (.cells ((#[]:Array Value)++Builtin.zeroCells z.cells (0+n - 0)++Builtin.zeroCells z.cells (grownCap w0 (0+n) 0 126 - (0+n))) 126))
  generalize (#[]:Array Value)++Builtin.zeroCells z.cells (0+n - 0)++Builtin.zeroCells z.cells (grownCap w0 (0+n) 0 126 - (0+n))=C at hs ⊢
  generalize grownCap w0 (0+n) 0 126=G at *
  have hh:(w0.drew.alloc (.cells C 126)).heap=w0.heap.push (.cells C 126 (0,0)):=rfl
  refine ⟨_,fun k=>Value.ownBlock (.slice (some ⟨w0.heap.size,0,none⟩) 0 G)=some k,rfl,⟨⟨_,_,rfl⟩,trivial⟩,⟨rfl,rfl,rfl,fun q hq _=>?_,fun k hk _=>?_,fun k hk=>.inr ?_,fun h=>Nat.le_trans h (Nat.le_succ _)⟩,
   tP ⟨rfl,.inr ⟨w0.heap.size,G,C,rfl,Nat.zero_le _,?_,Nat.zero_le _,hG2,hs,?_⟩⟩ fun k hk=>?_⟩
  ·rw [hh,Array.size_push]; omega
  ·rw [hh,Array.getElem?_push_lt hk]; exact (Array.getElem?_eq_getElem hk).symm
  ·cases hk; exact Nat.le_refl _
  ·rw [hh,Array.getElem?_push_size]
  ·show C.toList.take (0*_)=[]
   rw [Nat.zero_mul]; rfl
  ·cases hk; exact Nat.le_refl _
structure SLV where
 v:Value
 h:y7 v
instance zi67:Inhabited SLV:=⟨⟨.slice none 0 0,isNil⟩⟩
instance zi68:Cod SLV:=⟨fun x=>[x.v],1,fun _=>rfl,fun x c hc=>by rw [List.mem_singleton.1 hc]; obtain ⟨_,_,_,h⟩:=x.h; rw [h]; rfl,by decide⟩
instance zi69:Un Tryz.prog 315 (.slice 50):=⟨Tryz.runUnderlying315⟩
def ctn (ls:List (List (U Qd))) (s:Nat):List (U Qd):=(ls.take s).flatten
theorem vf {ls:List (List (U Qd))} {s:Nat} (h:s < ls.length):ctn ls (s+1)=ctn ls s++gt ls s:=by
 unfold ctn
 rw [List.take_succ_eq_append_getElem h,fL h,List.flatten_append,List.flatten_singleton]
theorem yA (ls:List (List (U Qd))):ctn ls ls.length=ls.flatten:=by unfold ctn; rw [List.take_length]
theorem ctn_le (ls:List (List (U Qd))) (s:Nat):(ctn ls s).length≤ls.flatten.length:=by
 unfold ctn
 have h:=congrArg List.length (congrArg List.flatten (List.take_append_drop s ls))
 rw [List.flatten_append,List.length_append] at h
 omega
attribute [irreducible] ctn
theorem yC (ls:List (List (U Qd))) (svs:List SLV) (sv:Value) (hn:svs.length=ls.length) (hl:ls.flatten.length≤1000000) (hc:ls.length≤100) (w0:World) (hv:∀ i,i < ls.length→View w0 (gt svs i).v (gt ls i)) (hsv:View w0 sv svs) :
 Calls Tryz.prog 176 #[sv] w0 (RetR w0 126 ls.flatten True):=by
 refine enter (N:=36) Tryz.func176 rfl rfl ?_; intro ac h
 haveI:On:=⟨trivial⟩
 have hlen:=hsv.len
 have c0:(ctn ls 0).length=0:=by unfold ctn; rfl
 refine gz h <| (W) ?_; clear h; intro _ _ h
 refine wp_loop_ghost (fun n_ a_ w_=>∃ (s:Nat),(ls.length - s < n_)∧(s≤ls.length)∧St w0 36 [(0,sv),(3,iN (ctn ls s).length),(9,sv),(10,iN svs.length),(11,iN s)] [] a_ w_) (ls.length+1) ⟨0,by omega,by omega,by rw [c0]; exact h.rs⟩ ?_
 clear h; rintro n1 _ _ ⟨s,hm1,hs,h⟩
 obtain ⟨m1,rfl⟩:∃ m,n1=m+1:=⟨n1 - 1,by omega⟩
 refine gz h <| (ai) ?_ ?_ <;> clear h <;> intro _ _ h hc1
 ·
  have hd1:=of_decide_eq_true hc1
  have hx:=(hv s og).sl
  have hs1:=vf (show s < ls.length by omega)
  have hs2:=ctn_le ls (s+1)
  have hs3:(ctn ls (s+1)).length=(ctn ls s).length+(gt ls s).length:=by rw [hs1,List.length_append]
  refine gz h <| (ai) ?_ ?_ <;> clear h <;> intro _ _ h hc2
  ·
   have:=of_decide_eq_true hc2
   omega
  ·
   exact (nx h) fun _ _ h=>by exact ⟨m1,by omega,s+1,by omega,by omega,by rw [hs3]; exact h.rs⟩
 ·
  have hd1:=of_decide_eq_false hc1
  obtain rfl:s=ls.length:=by omega
  rw [yA] at h
  refine gz h <| (W) ?_; clear h; intro _ _ h
  refine jj (xs:=([]:List (U Qd))) h (ck Tryz.call242 rfl) (fun w_ hB_ hS_=>grow_ct ls.flatten.length hl w_) rfl ?_; clear h; intro gv _ _ _ h
  have e0:ctn ls 0=[]:=by unfold ctn; rfl
  refine gz h <| (W) ?_; clear h; intro _ _ h
  refine wp_loop_ghost (fun n_ a_ w_=>∃ (s:Nat) (v:Value),(ls.length - s < n_)∧(s≤ls.length)∧St w0 36 [(0,sv),(6,v),(25,sv),(26,iN svs.length),(27,iN s)] [.row (α:=U Qd) 126 v (ctn ls s)] a_ w_) (ls.length+1) ⟨0,gv,by omega,by omega,by rw [e0]; exact h.re [0]⟩ ?_
  clear h; rintro n2 _ _ ⟨s,v,hm2,hs,h⟩
  obtain ⟨m2,rfl⟩:∃ m,n2=m+1:=⟨n2 - 1,by omega⟩
  refine gz h <| (ai) ?_ ?_ <;> clear h <;> intro _ _ h hc2
  ·
   have hd2:=of_decide_eq_true hc2
   have hw:=hv s og
   have hx:=hw.sl
   have hs1:=vf (show s < ls.length by omega)
   have hs2:=ctn_le ls (s+1)
   have hs3:(ctn ls (s+1)).length=(ctn ls s).length+(gt ls s).length:=by rw [hs1,List.length_append]
   refine gz h <| (W) ?_; clear h; intro _ _ h
   refine on1 h 0 rfl (s_appV (xs:=ctn ls s) (ys:=gt ls s) slt50 hw rfl rfl og) rfl ?_; clear h; intro v2 _ _ _ h
   exact (nx h) fun _ _ h=>by exact ⟨m2,by omega,s+1,v2,by omega,by omega,by rw [hs1]; exact h.re [0]⟩
  ·
   have hd2:=of_decide_eq_false hc2
   obtain rfl:s=ls.length:=by omega
   rw [yA] at h
   exact (rx h) fun _ _ h=>(h.retR 0 rfl trivial)
theorem slt315:SlT Tryz.prog 315 50 1 24 [.slice none 0 0]:=⟨Tryz.underlying315,Tryz.t50,_,Tryz.type50,rfl,rfl,rfl,rfl,rfl,by decide,by decide⟩
theorem u6 (a b:List (U Qd)):[a,b].flatten=a++b:=by simp
theorem yD {a b:List (U Qd)} {av bv sv:Value} {ha:y7 av} {hb:y7 bv} (hl:a.length+b.length≤1000000) {w0:World} (hav:View w0 av a) (hbv:View w0 bv b) (hsv:View w0 sv [(⟨av,ha⟩:SLV),(⟨bv,hb⟩:SLV)]):Calls Tryz.prog 176 #[sv] w0 (RetR w0 126 (a++b) True):=by
 have h:=yC [a,b] [(⟨av,ha⟩:SLV),(⟨bv,hb⟩:SLV)] sv rfl (by rw [u6,List.length_append]; exact hl) (by show 2≤100; decide) w0 (fun i hi=>by
  have hi:i < 2:=hi
  rcases (by omega:i=0∨i=1) with rfl | rfl
  ·exact hav
  ·exact hbv) hsv
 rw [u6] at h; exact h
theorem View.isl {α:Type} [Cod α] {w:World} {sv:Value} {xs:List α} (h:View w sv xs):y7 sv:=h.sl.is
def d5 (a b:List (U Qd)):List (U Qd)×Int:=aV (a++b)
theorem nj (a:List (U Qd)) (av:Value) (b:List (U Qd)) (bv:Value) (hl:a.length+b.length≤300) (za:All (gk 30) a) (zb:All (gk 30) b) (w0:World) (hav:View w0 av a) (hbv:View w0 bv b) :
 Calls Tryz.prog 74 #[(.iface 55 (.agg #[])),av,bv] w0 (RetT w0 126 (d5 a b).1 [.int .i64 ((d5 a b).2)] (All (gk 20) ((d5 a b).1)∧(d5 a b).1.length≤900)):=by
 refine enter (N:=16) Tryz.func74 rfl rfl ?_; intro ac h
 haveI:On:=⟨trivial⟩
 refine gz h <| (W) ?_; clear h; intro _ _ h
 refine nw h (cA (α:=SLV) (xs:=[.tmp 9,.tmp 10]) (vs:=[av,bv]) [⟨av,hav.isl⟩,⟨bv,hbv.isl⟩] slt315 rfl (by obtain ⟨_,_,_,ha⟩:=hav.isl; obtain ⟨_,_,_,hb⟩:=hbv.isl; subst ha; subst hb; rfl) rfl DC) rfl ?_; clear h; intro ss _ _ _ h
 refine jj (xs:=a++b) h (ck Tryz.call176 rfl) (fun w_ hB_ hS_=>yD og (hav.below hB_) (hbv.below hB_) (row_view hS_ 0 rfl)) rfl ?_; clear h; intro cv _ _ _ h
 have hla:(a++b).length≤300:=by rw [List.length_append]; exact hl
 refine yO (vs:=[.int .i64 ((aV (a++b)).2)]) (xs:=(aV (a++b)).1) h (ck Tryz.call55 rfl) (fun w_ hB_ hS_=>ej (a++b) cv hla (All.app za zb) w_ (row_view hS_ 0 rfl)) rfl ?_; clear h; intro nv _ _ hp h
 exact (rx h) fun _ _ h=>(by unfold d5; exact h.retT 0 rfl rfl ⟨hp.1,by have:=hp.2; omega⟩)
attribute [irreducible] d5
def eD (base patch:List (U Qd)):List (U Qd):=ce (bE base (dg (aJ base) (aJ patch))++patch)
theorem mX (base:List (U Qd)) (basev:Value) (patch:List (U Qd)) (patchv:Value) (hlb:base.length≤20) (hlp:patch.length≤20) (hwb:∀ u∈base,Wv u.iv) (hwp:∀ u∈patch,Wv u.iv)
 (hc:∀ i∈aJ base,Wv i) (hc2:∀ i∈aJ patch,Wv i)
 (hz:All (gk 30) (rsA base (dg (aJ base) (aJ patch)) base.length 0)) (hrl:(rsA base (dg (aJ base) (aJ patch)) base.length 0).length≤300)
 (hz2:All (gk 30) (bE base (dg (aJ base) (aJ patch)))) (hl2:(bE base (dg (aJ base) (aJ patch))).length≤280)
 (zbase:All (gk 30) base) (zpatch:All (gk 30) patch) (w0:World) (hbv:View w0 basev base) (hpv:View w0 patchv patch) :
 Calls Tryz.prog 73 #[(.iface 55 (.agg #[])),basev,patchv] w0 (RetR w0 126 (eD base patch) (All (gk 20) (eD base patch)∧(eD base patch).length≤900)):=by
 refine enter (N:=22) Tryz.func73 rfl rfl ?_; intro ac h
 haveI:On:=⟨trivial⟩
 refine gz h <| (W) ?_; clear h; intro _ _ h
 refine jj (xs:=aJ base) h (ck Tryz.call56 rfl) (fun w_ hB_ hS_=>eE base basev og hwb zbase w_ (hbv.below hB_)) rfl ?_; clear h; intro d1 _ _ p1 h
 refine gz h <| (W) ?_; clear h; intro _ _ h
 refine jj (xs:=aJ patch) h (ck Tryz.call56 rfl) (fun w_ hB_ hS_=>eE patch patchv og hwp zpatch w_ (hpv.below hB_)) rfl ?_; clear h; intro d2 _ _ p2 h
 obtain ⟨p11,p12⟩:=p1
 obtain ⟨p21,p22⟩:=p2
 refine jj (xs:=dg (aJ base) (aJ patch)) h (ck Tryz.call79 rfl) (fun w_ hB_ hS_=>mm _ d1 _ d2 og og hc hc2 p11 p21 w_ (row_view hS_ 1 rfl) (row_view hS_ 0 rfl)) rfl ?_; clear h; intro d3 _ _ p3 h
 obtain ⟨p31,p32⟩:=p3
 refine jj (xs:=bE base (dg (aJ base) (aJ patch))) h (ck Tryz.call78 rfl) (fun w_ hB_ hS_=>lF base basev _ d3 og og hz hrl zbase p31 w_ (hbv.below hB_) (row_view hS_ 0 rfl)) rfl ?_; clear h; intro rv _ _ p4 h
 refine gz h <| (W) ?_; clear h; intro _ _ h
 have hrv:=(h.row_view 0 rfl).isl
 refine nw h (cA (α:=SLV) (xs:=[.tmp 17,.tmp 18]) (vs:=[rv,patchv]) [⟨rv,hrv⟩,⟨patchv,hpv.isl⟩] slt315 rfl (by obtain ⟨_,_,_,ha⟩:=hrv; obtain ⟨_,_,_,hb⟩:=hpv.isl; subst ha; subst hb; rfl) rfl DC) rfl ?_; clear h; intro ss _ _ _ h
 have hla:(bE base (dg (aJ base) (aJ patch))++patch).length≤300:=by rw [List.length_append]; omega
 refine jj (xs:=bE base (dg (aJ base) (aJ patch))++patch) h (ck Tryz.call176 rfl) (fun w_ hB_ hS_=>yD og (row_view hS_ 1 rfl) (hpv.below hB_) (row_view hS_ 0 rfl)) rfl ?_; clear h; intro cv _ _ _ h
 refine jj (xs:=ce _) h (ck Tryz.call117 rfl) (fun w_ hB_ hS_=>jA _ cv hla (All.app hz2 zpatch) w_ (row_view hS_ 0 rfl)) rfl ?_; clear h; intro nv _ _ hp h
 exact (rx h) fun _ _ h=>(by unfold eD; exact h.retR 0 rfl ⟨hp.1,by have:=hp.2; omega⟩)
attribute [irreducible] eD
end Go.Sx
namespace Go.Sx
theorem quads_rc {t:GR} (ht:Tm t) {f g:Qd} (hf:DOk f) (hg:DOk g) (h:aB f g t=true):ar f t=ar g t:=by
 have s:aB f g t=fG f g t:=by unfold aB; rfl
 have r:∀ f t,ar f t=bX f t:=fun _ _=>by unfold ar; rfl
 rw [s,kJ hf hg (ma ht)] at h
 rw [r,r,sr hf hg (ma ht),h]
theorem quq {n m:List (U Qd)} (hn:NF aX aB ar n) (hm:NF aX aB ar m) (hDn:∀ v∈n,DOk v.f) (hDm:∀ v∈m,DOk v.f) (hS:Sem aB n m):n=m :=
 xI quads_ru (fun t ht f g hf hg h=>quads_rc ht hf hg h) (fun a=>(gy a a).2 rfl) hn hm hDn hDm hS
theorem tY {l:List (U Qd)} (hl:(ag l).length=l.length) (h:∃ i,0 < i∧i < l.length∧dI (gt (ag l) (i - 1)).iv (gt (ag l) i).iv=false):aV l=([],11):=by
 obtain ⟨i,h0,h1,h2⟩:=h
 unfold aV
 refine (fin_r (uG (n:=l.length) (bad:=fun x=>decide ((x:Int)>0) && !(dI (gt (ag l) (x - 1)).iv (gt (ag l) x).iv)) (fun x hx=>by
  unfold dx
  rw [hl,decide_eq_true (by omega:(x:Int) < (l.length:Int)),cond_true]) (l.length - 0+1) 0 og ⟨i,Nat.zero_le _,h1,?_⟩)).trans rfl
 rw [decide_eq_true (by omega:(i:Int)>0),h2]
 rfl
theorem tX {u:List (U Qd)} (hW:∀ x∈u,Wv x.iv) (hD:¬ u.Pairwise fun a b=>Dj a.iv b.iv):aV u=([],11):=by
 obtain ⟨s1,s2⟩:=oL (fun x hx=>(hW x hx).1)
 refine tY s1.length_eq ?_
 refine Classical.byContradiction fun hn=>hD ((mV hW s1 s2).1 fun i h0 h1=>?_)
 cases hb:dI (gt (ag u) (i - 1)).iv (gt (ag u) i).iv with
 | true=>rfl
 | false=>exact absurd ⟨i,h0,by rw [← s1.length_eq]; exact h1,hb⟩ hn
theorem v8 {n:List (U Qd)} (hW:∀ x∈n,Wv x.iv∧DOk x.f) (hD:n.Pairwise fun a b=>Dj a.iv b.iv):∃ N,aV n=(N,0)∧NFs n N:=by
 obtain ⟨s1,s2⟩:=i0 (fun x hx=>(hW x hx).1.1)
 have hs:=nA (fun x hx=>(hW x hx).1) hD s1 s2
 have hWs:∀ x∈ao n,Wv x.iv∧DOk x.f:=fun x hx=>hW x (s1.mem_iff.1 hx)
 obtain ⟨e1,e2⟩:=oM (fun u hu=>(hW u hu).1.1) s1 (hs.imp_of_mem fun ha hb h=>kU_lt (hWs _ ha).1 (hWs _ hb).1 h)
 obtain ⟨N,h1,h2⟩:=sE hWs hs
 obtain ⟨N',k1,k2,k3,k4⟩:=xG hW hD
 have hN:bn (ao n)=(N,0):=by rw [← h1]; exact (mM ((nB (fun x hx=>(hWs x hx).1) hs).1.trans (nB (fun x hx=>(hWs x hx).1) hs).2.symm)).symm
 have hS:Sem aB n (ao n) :=
  ⟨fun t ht u hu hi=>⟨u,s1.mem_iff.1 hu,hi,quads_ru.refl t ht _ (hWs u hu).2⟩,fun q u hu hi=>⟨u,s1.mem_iff.1 hu,hi,rfl⟩,fun t ht w hw hi=>⟨w,s1.mem_iff.2 hw,hi,quads_ru.refl t ht _ (hW w hw).2⟩,fun q w hw hi=>⟨w,s1.mem_iff.2 hw,hi,rfl⟩⟩
 have hSN:=hS.trans quads_ru (fun u hu=>(hW u hu).2) (fun u hu=>(hWs u hu).2) h2.ok h2.sem
 have e:=quq h2.nf k2 h2.ok k3 ((hSN.symm quads_ru (fun u hu=>(hW u hu).2) h2.ok).trans quads_ru h2.ok (fun u hu=>(hW u hu).2) k3 k4)
 refine ⟨N,by rw [mM (e1.trans e2.symm),k1,e],h2.nf,h2.ok,hSN,by have:=h2.len; rw [s1.length_eq] at this; exact this,fun x hx=>?_⟩
 obtain ⟨w,hw,h⟩:=h2.fn x hx
 exact ⟨w,s1.mem_iff.1 hw,h⟩
theorem Sem.app {n n' N N':List (U Qd)} (h:Sem aB n N) (h':Sem aB n' N'):Sem aB (n++n') (N++N'):=by
 refine ⟨fun t ht u hu hi=>?_,fun q u hu hi=>?_,fun t ht u hu hi=>?_,fun q u hu hi=>?_⟩
 all_goals rcases List.mem_append.1 hu with hu | hu
 ·obtain ⟨w,a,b⟩:=h.s1 t ht u hu hi; exact ⟨w,List.mem_append_left _ a,b⟩
 ·obtain ⟨w,a,b⟩:=h'.s1 t ht u hu hi; exact ⟨w,List.mem_append_right _ a,b⟩
 ·obtain ⟨w,a,b⟩:=h.s2 q u hu hi; exact ⟨w,List.mem_append_left _ a,b⟩
 ·obtain ⟨w,a,b⟩:=h'.s2 q u hu hi; exact ⟨w,List.mem_append_right _ a,b⟩
 ·obtain ⟨w,a,b⟩:=h.c1 t ht u hu hi; exact ⟨w,List.mem_append_left _ a,b⟩
 ·obtain ⟨w,a,b⟩:=h'.c1 t ht u hu hi; exact ⟨w,List.mem_append_right _ a,b⟩
 ·obtain ⟨w,a,b⟩:=h.c2 q u hu hi; exact ⟨w,List.mem_append_left _ a,b⟩
 ·obtain ⟨w,a,b⟩:=h'.c2 q u hu hi; exact ⟨w,List.mem_append_right _ a,b⟩
theorem dj_of {x y:Iv} (hx:Wv x) (hy:Wv y) (h:∀ q,((∃ t,Tm t∧q=2*tk t)∨∃ k,q=2*k+1)→¬ (inU x q∧inU y q)):Dj x y:=by
 have a:=hx.le
 have b:=hy.le
 by_cases e:dL x≤dL y
 ·left
  have:=h (dL y) (by rcases i7 y with ⟨_,e⟩ | ⟨_,e⟩; exact .inl ⟨_,hy.1.1,e⟩; exact .inr ⟨_,e⟩)
  unfold inU at this
  omega
 ·right
  have:=h (dL x) (by rcases i7 x with ⟨_,e⟩ | ⟨_,e⟩; exact .inl ⟨_,hx.1.1,e⟩; exact .inr ⟨_,e⟩)
  unfold inU at this
  omega
theorem dj_no {x y:Iv} (h:Dj x y) (q:Nat):¬ (inU x q∧inU y q):=by
 unfold Dj at h; unfold inU
 omega
theorem Sem.place {n N:List (U Qd)} (h:Sem aB n N) {u:U Qd} (hu:u∈N) {q:Nat} (hq:(∃ t,Tm t∧q=2*tk t)∨∃ k,q=2*k+1) (hi:inU u.iv q):∃ w∈n,inU w.iv q:=by
 rcases hq with ⟨t,ht,rfl⟩ | ⟨k,rfl⟩
 ·obtain ⟨w,a,b,_⟩:=h.s1 t ht u hu hi; exact ⟨w,a,b⟩
 ·obtain ⟨w,a,b,_⟩:=h.s2 k u hu hi; exact ⟨w,a,b⟩
end Go.Sx
namespace Go.Sx
theorem rs_in {l:List (U Qd)} {d:List Iv} {i:Nat} (o:List (U Qd)) (hi:i < l.length):∀ n k out,k≤d.length→d.length - k < n→out=rsA l d i k→bt (fun s=>cw l d o i s.1 s.2) n (out,k)=.inl (rsA l d (i+1) 0,d.length)
 | 0,k,out,_,hn,_=>by omega
 | n+1,k,out,hk,hn,ho=>by
  by_cases h:k < d.length
  ·have hb:cw l d o i out k=.go (rsA l d i (k+1),k+1):=by
    unfold cw
    rw [decide_eq_true (by omega:(k:Int) < (d.length:Int)),cond_true]
    cases hm:(bf (gt l i).iv (gt d k)).2 with
    | true=>rw [cond_true,ho,xm hi h hm]
    | false=>rw [cond_false,ho,rsA_no hi h hm]
   rw [eN n (show (fun s:List (U Qd)×Nat=>cw l d o i s.1 s.2) (out,k)=_ from hb)]
   exact rs_in o hi n (k+1) _ h og rfl
  ·have e:k=d.length:=by omega
   have hb:cw l d o i out k=.out (out,k):=by
    unfold cw
    rw [decide_eq_false (by omega:¬ (k:Int) < (d.length:Int))]; rfl
   rw [fD n (show (fun s:List (U Qd)×Nat=>cw l d o i s.1 s.2) (out,k)=_ from hb),ho,e,xn]
theorem rs_out {l:List (U Qd)} {d:List Iv}:∀ n i out,i≤l.length→l.length - i < n→out=rsA l d i 0→bt (fun s=>cx l d s.1 s.2) n (out,i)=.inl (rsL l d,l.length)
 | 0,i,out,_,hn,_=>by omega
 | n+1,i,out,hi,hn,ho=>by
  by_cases h:i < l.length
  ·have hb:cx l d out i=.go (rsA l d (i+1) 0,i+1):=by
    unfold cx
    rw [decide_eq_true (by omega:(i:Int) < (l.length:Int)),cond_true,ir (rs_in out h _ 0 out (Nat.zero_le _) og ho)]
    rfl
   rw [eN n (show (fun s:List (U Qd)×Nat=>cx l d s.1 s.2) (out,i)=_ from hb)]
   exact rs_out n (i+1) _ h og rfl
  ·have e:i=l.length:=by omega
   have hb:cx l d out i=.out (out,i):=by
    unfold cx
    rw [decide_eq_false (by omega:¬ (i:Int) < (l.length:Int))]; rfl
   rw [fD n (show (fun s:List (U Qd)×Nat=>cx l d s.1 s.2) (out,i)=_ from hb),ho,e]
   rfl
theorem tS (l:List (U Qd)) (d:List Iv):bE l d=ce (rsL l d):=by
 unfold bE
 refine (ir (rs_out _ 0 [] (Nat.zero_le _) og rfl)).trans ?_
 unfold jm
 rfl
theorem nm (l:List (U Qd)):ce l=(aV l).1:=by unfold ce; rfl
theorem so {l:List (U Qd)} {d:List Iv} (hl:Od l) (hD:∀ x∈l,DOk x.f) (hd:Cn d):NFs (rsL l d) (bE l d):=by
 obtain ⟨N,h1,h2⟩:=sE (n:=rsL l d) (fun x hx=>by
  obtain ⟨u,hu,e,w,_⟩:=qG hl hd hx
  exact ⟨w,by rw [e]; exact hD u hu⟩) (rs_ord hl hd)
 rw [tS,nm,h1]
 exact h2
end Go.Sx
namespace Go.Sx
theorem tZ (l:List Stp):∀ x∈nb l,DOk x.f:=(tz l).2
section
variable (l:List Stp) {d:List Iv} (hd:Cn d)
include hd
theorem qq:NFs (rsL (nb l) d) (bE (nb l) d):=so (iU l) (tZ l) hd
theorem r_bf:∀ x∈rsL (nb l) d,Wv x.iv∧Bf 2199023255552 x.f:=fun x hx=>by
 obtain ⟨u,hu,e,w,_⟩:=qG (iU l) hd hx
 exact ⟨w,by rw [e]; exact nb_bf l u hu⟩
theorem r_z:All (gk 30) (rsL (nb l) d):=fun x hx=>⟨wJ (r_bf l hd x hx).1,((r_bf l hd x hx).2.mono DC).sz (n:=11) DC⟩
theorem r_z2:All (gk 30) (bE (nb l) d):=fun x hx=>by
 have h:=qq l hd
 obtain ⟨w,hw,hf⟩:=h.fn x hx
 have hb:=(r_bf l hd w hw).2
 refine ⟨wJ (h.nf.wv x hx),Bf.sz (n:=36) ?_ DC⟩
 rcases hf with e | ⟨t,ht,e⟩
 ·rw [e]; exact hb.mono (by decide +kernel)
 ·rw [e]; exact (uK DC hb ht).mono (by decide +kernel)
theorem rp_len:(rsL (nb l) d).length≤16+d.length:=by
 have:=rs_len2 (iU l) hd
 have:=uV l (tw l)
 omega
theorem xp:(bE (nb l) d).length≤16+d.length:=Nat.le_trans (qq l hd).len (rp_len l hd)
theorem r_in {u:U Qd} (hu:u∈bE (nb l) d) {q:Nat} (hq:(∃ t,Tm t∧q=2*tk t)∨∃ k,q=2*k+1) (hi:inU u.iv q):inP d q:=by
 obtain ⟨w,hw,h⟩:=(qq l hd).sem.place hu hq hi
 obtain ⟨_,_,_,_,h2,_⟩:=qG (iU l) hd hw
 exact (h2 q h).2
end
theorem dj_app {a b:List (U Qd)} (ha:NF aX aB ar a) (hb:NF aX aB ar b) (h:∀ x∈a,∀ y∈b,Dj x.iv y.iv):(a++b).Pairwise fun x y=>Dj x.iv y.iv :=
 List.pairwise_append.2 ⟨ha.ord.imp fun h=>.inl h,hb.ord.imp fun h=>.inl h,h⟩
end Go.Sx
namespace Go.Sx
section
variable (l m:List Stp)
def pd:List Iv:=dg (aJ (nb l)) (aJ (nb m))
def pr:List (U Qd):=bE (nb l) (pd l m)
theorem pc:Cn (aJ (nb l)):=(vb (iU l).wv).1
theorem qA {q:Nat}:inP (aJ (nb l)) q↔∃ u∈nb l,inU u.iv q:=(vb (iU l).wv).2 q
theorem l5:Cn (pd l m):=Cn.minus (pc l) (pc m)
theorem pd_in {q:Nat}:inP (pd l m) q↔inP (aJ (nb l)) q∧¬ inP (aJ (nb m)) q:=(sN (pc l).wv (pc m).wv).2 q
theorem pp_ok:∀ x∈pr l m++nb m,Wv x.iv∧DOk x.f:=fun x hx=>by
 rcases List.mem_append.1 hx with h | h
 ·exact ⟨(qq l (l5 l m)).nf.wv x h,(qq l (l5 l m)).ok x h⟩
 ·exact ⟨(iU m).wv x h,tZ m x h⟩
theorem pp_nfs:∃ N,aV (pr l m++nb m)=(N,0)∧NFs (pr l m++nb m) N :=
 v8 (pp_ok l m) (dj_app (qq l (l5 l m)).nf (tz m).1 fun x hx y hy=>dj_of ((qq l (l5 l m)).nf.wv x hx) ((iU m).wv y hy) fun q hq h =>
  ((pd_in l m).1 (r_in l (l5 l m) hx hq h.1)).2 ((qA m).2 ⟨y,hy,h.2⟩))
def pq:List (U Qd):=ce (pr l m++nb m)
theorem pG:NFs (pr l m++nb m) (pq l m):=by
 obtain ⟨N,h1,h2⟩:=pp_nfs l m
 unfold pq
 rw [nm,h1]; exact h2
theorem pr_bf:∀ x∈pr l m++nb m,Bf (4294967296*(2199023255552*2199023255552*2199023255552)) x.f:=fun x hx=>by
 rcases List.mem_append.1 hx with h | h
 ·obtain ⟨w,hw,hf⟩:=(qq l (l5 l m)).fn x h
  have hb:=(r_bf l (l5 l m) w hw).2
  rcases hf with e | ⟨t,ht,e⟩
  ·rw [e]; exact hb.mono (by decide +kernel)
  ·rw [e]; exact uK DC hb ht
 ·exact (nb_bf m x h).mono (by decide +kernel)
theorem pq_z:All (gk 30) (pq l m):=fun x hx=>by
 obtain ⟨w,hw,hf⟩:=(pG l m).fn x hx
 have hb:=pr_bf l m w hw
 refine ⟨wJ ((pG l m).nf.wv x hx),Bf.sz (n:=66) ?_ DC⟩
 rcases hf with e | ⟨t,ht,e⟩
 ·rw [e]; exact hb.mono (by decide +kernel)
 ·rw [e]; exact (uK (by decide +kernel) hb ht).mono (by decide +kernel)
theorem pq_len (h:(pd l m).length≤128):(pq l m).length≤160:=by
 have h1:=(pG l m).len
 have h2:=xp l (l5 l m)
 have h3:=uV m (tw m)
 rw [List.length_append] at h1
 unfold pr at h1
 omega
theorem pq_chk (h:(pd l m).length≤128):dm (pq l m)=0:=yM (by have:=pq_len l m h; omega) (pG l m).nf (pG l m).ok
theorem pq_at {t:GR} (ht:Tm t):(dq (pq l m) t).2=((bp (nb l) t).2 || (bp (nb m) t).2) ∧
 ((dq (pq l m) t).2=true→fG (dq (pq l m) t).1 (bif (bp (nb m) t).2 then (bp (nb m) t).1 else (bp (nb l) t).1) t=true):=by
 have hs:=pG l m
 have hr:=qq l (l5 l m)
 rcases At_spec hs.nf.wv hs.nf.ord ht with ⟨y,hy,hj,e'⟩ | ⟨hn',e'⟩
 ·obtain ⟨w,hw,h1,h2⟩:=hs.sem.s1 t ht y hy hj
  rcases List.mem_append.1 hw with hw | hw
  ·obtain ⟨v,hv,k1,k2⟩:=hr.sem.s1 t ht w hw h1
   obtain ⟨u,hu,hf,_,hq,_⟩:=qG (iU l) (l5 l m) hv
   obtain ⟨p1,p2⟩:=hq _ k1
   have hno:=((pd_in l m).1 p2).2
   rcases jE (fun u hu=>((iU m).wv u hu).1) ht with ⟨x,hx,hi,e⟩ | ⟨hn,e⟩
   ·exact absurd ((qA m).2 ⟨x,hx,hi⟩) hno
   ·rcases jE (fun u hu=>((iU l).wv u hu).1) ht with ⟨x,hx,hi,e2⟩ | ⟨hn2,e2⟩
    ·have q1:u=x:=(tz l).1.one hu hx p1 hi
     subst q1
     rw [e',e,e2]
     refine ⟨rfl,fun _=>?_⟩
     have s:=quads_ru.trans t ht _ _ _ (hs.ok y hy) (hr.ok w hw) (by rw [hf]; exact tZ l u hu) h2 k2
     rw [hf] at s
     unfold aB at s; exact s
    ·exact absurd p1 (hn2 u hu)
  ·rcases jE (fun u hu=>((iU m).wv u hu).1) ht with ⟨x,hx,hi,e⟩ | ⟨hn,e⟩
   ·have q1:w=x:=(tz m).1.one hw hx h1 hi
    subst q1
    rw [e',e]
    refine ⟨(Bool.or_true _).symm,fun _=>?_⟩
    unfold aB at h2; exact h2
   ·exact absurd h1 (hn w hw)
 ·rw [e']
  refine ⟨?_,fun h=>by cases h⟩
  rcases jE (fun u hu=>((iU m).wv u hu).1) ht with ⟨x,hx,hi,e⟩ | ⟨hn,e⟩
  ·obtain ⟨y,hy,hj,_⟩:=hs.sem.c1 t ht x (List.mem_append_right _ hx) hi
   exact absurd hj (hn' y hy)
  ·rcases jE (fun u hu=>((iU l).wv u hu).1) ht with ⟨x,hx,hi,e2⟩ | ⟨hn2,e2⟩
   ·obtain ⟨w,hw,hw1,_⟩:=rs_at (iU l) (l5 l m) hx hi ((pd_in l m).2 ⟨(qA l).2 ⟨x,hx,hi⟩,fun h=>by
     obtain ⟨z,hz,hz2⟩:=(qA m).1 h
     exact hn z hz hz2⟩)
    obtain ⟨v,hv,k1,_⟩:=hr.sem.c1 t ht w hw hw1
    obtain ⟨y,hy,hj,_⟩:=hs.sem.c1 t ht v (List.mem_append_left _ hv) k1
    exact absurd hj (hn' y hy)
   ·rw [e,e2]; rfl
def Ov:Prop:=∃ q,inP (aJ (nb l)) q∧inP (aJ (nb m)) q
theorem ov_int:(0 < (dB (aJ (nb l)) (aJ (nb m))).length)↔Ov l m:=by
 obtain ⟨c,h⟩:=x3 (pc l).wv (pc m).wv
 generalize dB (aJ (nb l)) (aJ (nb m))=P at c h
 constructor
 ·intro hl
  have hm:gt P 0∈P:=gtm hl
  exact ⟨dL (gt P 0),(h _).1 ⟨_,hm,ot.2 (sZ (c.wv _ hm))⟩⟩
 ·rintro ⟨q,hq⟩
  obtain ⟨i,hi,_⟩:=(h q).2 hq
  exact List.length_pos_of_mem hi
theorem ov_val {t:GR} (ht:Tm t) (h1:(bp (nb l) t).2=true) (h2:(bp (nb m) t).2=true):Ov l m:=by
 refine ⟨2*tk t,?_,?_⟩
 ·rcases jE (fun u hu=>((iU l).wv u hu).1) ht with ⟨x,hx,hi,e⟩ | ⟨hn,e⟩
  ·exact (qA l).2 ⟨x,hx,hi⟩
  ·rw [e] at h1; cases h1
 ·rcases jE (fun u hu=>((iU m).wv u hu).1) ht with ⟨x,hx,hi,e⟩ | ⟨hn,e⟩
  ·exact (qA m).2 ⟨x,hx,hi⟩
  ·rw [e] at h2; cases h2
theorem ov_yes (h:Ov l m):aV (nb l++nb m)=([],11):=by
 obtain ⟨q,a,b⟩:=h
 obtain ⟨x,hx,hi⟩:=(qA l).1 a
 obtain ⟨y,hy,hj⟩:=(qA m).1 b
 refine tX (fun x hx=>?_) fun hp=>dj_no ((List.pairwise_append.1 hp).2.2 x hx y hy) q ⟨hi,hj⟩
 rcases List.mem_append.1 hx with h | h
 ·exact (iU l).wv x h
 ·exact (iU m).wv x h
theorem ov_no (h:¬ Ov l m):aV (nb l++nb m)=(pq l m,0):=by
 have hin:∀ u∈nb l,∀ q,inU u.iv q→inP (pd l m) q:=fun u hu q hq=>(pd_in l m).2 ⟨(qA l).2 ⟨u,hu,hq⟩,fun e=>h ⟨q,(qA l).2 ⟨u,hu,hq⟩,e⟩⟩
 have hr:=qq l (l5 l m)
 have S1:Sem aB (rsL (nb l) (pd l m)) (nb l):=by
  refine ⟨fun t ht u hu hi=>?_,fun q u hu hi=>?_,fun t ht w hw hi=>?_,fun q w hw hi=>?_⟩
  ·obtain ⟨w,a,b,c⟩:=rs_at (iU l) (l5 l m) hu hi (hin u hu _ hi); exact ⟨w,a,b,by rw [c]; exact quads_ru.refl t ht _ (tZ l u hu)⟩
  ·obtain ⟨w,a,b,c⟩:=rs_at (iU l) (l5 l m) hu hi (hin u hu _ hi); exact ⟨w,a,b,c.symm⟩
  ·obtain ⟨u,a,b,_,c,_⟩:=qG (iU l) (l5 l m) hw; exact ⟨u,a,(c _ hi).1,by rw [b]; exact quads_ru.refl t ht _ (tZ l u a)⟩
  ·obtain ⟨u,a,b,_,c,_⟩:=qG (iU l) (l5 l m) hw; exact ⟨u,a,(c _ hi).1,b.symm⟩
 have hd:∀ v∈rsL (nb l) (pd l m),DOk v.f:=fun v hv=>(r_bf l (l5 l m) v hv).2.1
 have e:pr l m=nb l:=quq hr.nf (tz l).1 hr.ok (tZ l) ((hr.sem.symm quads_ru hd hr.ok).trans quads_ru hr.ok hd (tZ l) S1)
 obtain ⟨N,h1,h2⟩:=pp_nfs l m
 unfold pq
 rw [nm,e] at *
 rw [h1]
end
end Go.Sx
