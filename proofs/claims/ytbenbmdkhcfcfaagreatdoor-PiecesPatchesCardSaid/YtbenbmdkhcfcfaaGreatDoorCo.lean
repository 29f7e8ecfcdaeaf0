import Derived.Test.YtbenbmdkhcfcfaaGreatDoorI1
import Derived.Test.YtbenbmdkhcfcfaaGreatDoorP1
import Derived.Test.YtbenbmdkhcfcfaaGreatDoorN1
set_option linter.unusedVariables false
set_option linter.unusedSimpArgs false
namespace Go.Sx
open Go Go.RowKit Go.Proofs
set_option maxRecDepth 100000
set_option maxHeartbeats 40000000
attribute [local irreducible] Code.wp wpList Rd gW ObS Ent
attribute [local irreducible] an bB ah aO az c8
def aJ (l:List (U Qd)):(List Iv) :=
 (fj (bV l))
theorem eE (l:List (U Qd)) (lv:Value) (hl:l.length≤100) (hw:∀ u∈l,Wv u.iv) (zl:All (gk 30) l) (w0:World) (hlv:View w0 lv l):Calls Tryz.prog 56 #[lv] w0 (RetR w0 86 (aJ l) (All (SzV 30) (aJ l)∧(aJ l).length≤2*l.length)):=by
 refine enter (N:=6) Tryz.func56 rfl rfl ?_; intro ac h
 have hlenl:=hlv.len
 refine gz h <| (W) ?_; clear h; intro _ _ h
 have s1:=RetR.pr ((fun w_ hB_ hS_=>je l lv og zl w_ (hlv.below hB_)) _ h.bel h.sep)
 have p2:=s1.2
 refine jj (xs:=(bV l)) h (ck Tryz.call152 rfl) (fun w_ hB_ hS_=>je l lv og zl w_ (hlv.below hB_)) rfl ?_; clear h; intro sv3 _ _ _ h
 have s4:=RetR.pr ((fun w_ hB_ hS_=>lS (bV l) sv3 og (mw hw) s1.1 w_ (row_view hS_ 0 rfl)) _ h.bel h.sep)
 have p5:=s4.2
 refine jj (xs:=(fj (bV l))) h (ck Tryz.call77 rfl) (fun w_ hB_ hS_=>lS (bV l) sv3 og (mw hw) s1.1 w_ (row_view hS_ 0 rfl)) rfl ?_; clear h; intro sv6 _ _ _ h
 exact (rx h) fun _ _ h=>(by unfold aJ; exact h.retR 0 rfl ⟨s4.1,og⟩)
attribute [irreducible] aJ
end Go.Sx
namespace Go.Sx
def En (out:List (U Qd)) (e:GR):Prop:=∃ x∈out,e=x.iv.lo∨e=x.iv.hi
def Far (x y:GR):Prop:=tk x=tk y∨tk x+16≤tk y∨tk y+16≤tk x
def ctk (a:Nat) (r:Bool):Nat:=10*a+10+(bif r then 14 else 0)
def GI2 (s:(List (U Qd))×Nat×Bool×Bool×Nat×Qd):Prop :=
 s.2.1≤5*s.2.2.2.2.1∧s.2.2.2.2.1≤8∧(∀ e,En s.1 e→10≤tk e∧(tk e=ctk s.2.1 s.2.2.1∨tk e+16≤ctk s.2.1 s.2.2.1))∧(∀ e f,En s.1 e→En s.1 f→Far e f)
theorem en_pt {s:Stp} {b:Qd} {t:GR} {k:Bool} {e:GR} (h:En (bPs s b t k) e):e=t:=by
 obtain ⟨x,hx,he⟩:=h
 unfold bPs bPt pUn at hx
 cases k
 ·rw [cond_false] at hx
  cases h2:((((s.piece % 4):Nat):Int) == ((2:Nat):Int)) <;> rw [h2] at hx
  ·rw [cond_false] at hx
   cases h3:((((s.point % 4):Nat):Int) == ((1:Nat):Int)) <;> rw [h3] at hx
   ·rw [cond_false] at hx
    cases h4:((((s.point % 4):Nat):Int) == ((2:Nat):Int)) <;> rw [h4] at hx
    ·rw [cond_false] at hx
     cases h5:((((s.point % 4):Nat):Int) == ((3:Nat):Int)) <;> rw [h5] at hx
     ·cases hx
     ·rw [List.mem_singleton.1 hx] at he; rcases he with e | e <;> exact e
    ·rw [List.mem_singleton.1 hx] at he; rcases he with e | e <;> exact e
   ·rw [List.mem_singleton.1 hx] at he; rcases he with e | e <;> exact e
  ·cases hx
 ·cases hx
theorem en_gp {s:Stp} {t t':GR} {k:Bool} {e:GR} (h:En (bGp s t t' k) e):e=t∨e=t':=by
 obtain ⟨x,hx,he⟩:=h
 unfold bGp at hx
 cases h2:((((s.piece % 4):Nat):Int) != ((0:Nat):Int)) <;> rw [h2] at hx
 ·cases hx
 ·rw [List.mem_singleton.1 hx] at he; exact he
theorem en_app {a b:List (U Qd)} {e:GR} (h:En (a++b) e):En a e∨En b e:=by
 obtain ⟨x,hx,he⟩:=h
 rcases List.mem_append.1 hx with hx | hx
 ·exact .inl ⟨x,hx,he⟩
 ·exact .inr ⟨x,hx,he⟩
theorem gap_inv (l:List Stp) (s:(List (U Qd))×Nat×Bool×Bool×Nat×Qd) (h:GI2 s) :
 nxP GI2 (fun _=>False) (cH l s.1 s.2.1 s.2.2.1 s.2.2.2.1 s.2.2.2.2.1 s.2.2.2.2.2):=by
 obtain ⟨out,a,root,taken,i,before⟩:=s
 obtain ⟨h1,h2,h3,h4⟩:=h
 simp only at h1 h2 h3 h4
 rw [oH]
 cases hc:((decide ((i:Int) < (l.length:Int))) && (decide ((i:Int) < 8))) with
 | false=>exact ⟨h1,h2,h3,h4⟩
 | true =>
  rw [cond_true]
  rw [Bool.and_eq_true,decide_eq_true_eq,decide_eq_true_eq] at hc
  have hi:i < 8:=by omega
  have hm:(gt l i).length % 3 < 3:=Nat.mod_lt _ DC
  have e1:tk (ae (a:Int) root)=ctk a root:=tk_at a root og
  have e2:tk (ae (((a+3)+((gt l i).length % 3):Nat):Int) ((gt l i).root))=ctk ((a+3)+((gt l i).length % 3)) (gt l i).root:=tk_at ((a+3)+((gt l i).length % 3)) (gt l i).root og
  have hc:ctk a root+16≤ctk ((a+3)+((gt l i).length % 3)) (gt l i).root∧10≤ctk a root:=by
   unfold ctk; cases root <;> cases (gt l i).root <;> simp <;> omega
  have new:∀ e,En (out++(bPs (gt l i) before (ae (a:Int) root) taken++bGp (gt l i) (ae (a:Int) root) (ae (((a+3)+((gt l i).length % 3):Nat):Int) ((gt l i).root)) taken)) e →
   (En out e∨tk e=ctk a root∨tk e=ctk ((a+3)+((gt l i).length % 3)) (gt l i).root):=fun e he=>by
   rcases en_app he with h | h
   ·exact .inl h
   ·rcases en_app h with h | h
    ·rw [en_pt h]; exact .inr (.inl e1)
    ·rcases en_gp h with e | e
     ·rw [e]; exact .inr (.inl e1)
     ·rw [e]; exact .inr (.inr e2)
  refine ⟨?_,?_,fun e he=>?_,fun e f he hf=>?_⟩
  ·show (a+3)+((gt l i).length % 3)≤5*(i+1); omega
  ·show i+1≤8; omega
  ·show 10≤tk e∧(tk e=ctk ((a+3)+((gt l i).length % 3)) (gt l i).root∨tk e+16≤ctk ((a+3)+((gt l i).length % 3)) (gt l i).root)
   rcases new e he with h | h | h
   ·have:=h3 e h; omega
   ·omega
   ·omega
  ·unfold Far
   rcases new e he with h | h | h <;> rcases new f hf with h' | h' | h'
   ·exact h4 e f h h'
   ·have:=h3 e h; omega
   ·have:=h3 e h; omega
   ·have:=h3 f h'; omega
   ·omega
   ·omega
   ·have:=h3 f h'; omega
   ·omega
   ·omega
theorem tx (l:List Stp):(∀ e,En (aM l) e→10≤tk e∧tk e < 435)∧∀ e f,En (aM l) e→En (aM l) f→Far e f:=by
 have h:=pi (R:=List (U Qd)) (Q:=fun _=>False) (B:=fun s=>cH l s.1 s.2.1 s.2.2.1 s.2.2.2.1 s.2.2.2.2.1 s.2.2.2.2.2) (I:=GI2) (gap_inv l) ((8 - 0)+1) ([],0,false,false,0,default)
  ⟨by decide,by decide,fun e ⟨x,hx,_⟩=>(by cases hx),fun e _ ⟨x,hx,_⟩=>(by cases hx)⟩
 have e:∃ s,GI2 s∧aM l=s.1:=by
  unfold aM
  revert h
  generalize bt _ _ _=X
  intro h
  cases X with
  | inl s =>
   refine ⟨s,h,?_⟩
   show fy l s.1 s.2.1 s.2.2.1 s.2.2.2.1 s.2.2.2.2.1 s.2.2.2.2.2=_
   unfold fy
   rfl
  | inr r=>exact h.elim
 obtain ⟨s,hs,e⟩:=e
 rw [e]
 refine ⟨fun x hx=>?_,hs.2.2.2⟩
 have h1:=hs.2.2.1 x hx
 have h2:=hs.1
 have h3:=hs.2.1
 have h4:ctk s.2.1 s.2.2.1≤10*s.2.1+24:=by unfold ctk; cases s.2.2.1 <;> simp
 omega
end Go.Sx
namespace Go.Sx
theorem ot {i:Iv} {x:Nat}:inI i x↔inU i x:=by
 unfold inI inU
 have h1:=kO i
 have h2:=mu i
 rw [h1]; omega
theorem xG {n:List (U Qd)} (hW:∀ x∈n,Wv x.iv∧DOk x.f) (hD:n.Pairwise fun a b=>Dj a.iv b.iv) :
 ∃ N,bn n=(N,0)∧NF aX aB ar N∧(∀ x∈N,DOk x.f)∧Sem aB n N:=by
 obtain ⟨s1,s2⟩:=i0 (fun x hx=>(hW x hx).1.1)
 have hWs:∀ x∈ao n,Wv x.iv∧DOk x.f:=fun x hx=>hW x (s1.mem_iff.1 hx)
 have hs:=nA (fun x hx=>(hW x hx).1) hD s1 s2
 have h:=uF (eqf:=aX) (red:=ar) quads_ru (fun a b=>(gy a b).1) hWs hs
 refine ⟨_,?_,h.1,h.2.1,?_⟩
 ·rw [ii s1.length_eq fun i h0 h1=>(mV (fun x hx=>(hW x hx).1) s1 s2).2 hD i h0 (by rw [s1.length_eq]; exact h1),ij,jL]
 ·obtain ⟨k1,k2,k3,k4⟩:=h.2.2
  exact ⟨fun t ht u hu hi=>by obtain ⟨w,a,b⟩:=k1 t ht u hu hi; exact ⟨w,s1.mem_iff.1 a,b⟩,fun q u hu hi=>by obtain ⟨w,a,b⟩:=k2 q u hu hi; exact ⟨w,s1.mem_iff.1 a,b⟩,
   fun t ht w hw hi=>k3 t ht w (s1.mem_iff.2 hw) hi,fun q w hw hi=>k4 q w (s1.mem_iff.2 hw) hi⟩
theorem sX {i:Iv} {t:GR} (hi:Tv i) (ht:Tm t):aT i t t false=true↔inU i (2*tk t):=by
 unfold aT inU dL ec
 rw [hi.1.cmp ht,ht.cmp hi.2]
 rcases Nat.lt_trichotomy (tk i.lo) (tk t) with h1 | h1 | h1 <;> rcases Nat.lt_trichotomy (tk t) (tk i.hi) with h2 | h2 | h2
 all_goals (first | rw [fO h1] | rw [h1,dW] | rw [gb h1])
 all_goals (first | rw [fO h2] | rw [← h2,dW] | rw [gb h2])
 all_goals (cases i.openLo <;> cases i.openHi <;> simp <;> omega)
end Go.Sx
namespace Go.Sx
theorem q9 {T R:Type} {B:T→Nx T R} (st:Nat→T) {n:Nat} {brk hit:Nat→Bool} {r:Nat→R} {o:Nat→T}
 (h:∀ i,i < n→B (st i)=bif brk i then .out (o i) else bif hit i then .ret (r i) else .go (st (i+1))) (ho:B (st n)=.out (o n)) :
 ∀ k a,a≤n→n - a < k→∃ b,a≤b∧b≤n∧(∀ j,a≤j→j < b→brk j=false∧hit j=false)∧((b < n∧brk b=false∧hit b=true∧bt B k (st a)=.inr (r b))∨((b=n∨(b < n∧brk b=true))∧bt B k (st a)=.inl (o b)))
 | k+1,a,ha,hk=>by
  by_cases e:a=n
  ·subst e
   exact ⟨a,Nat.le_refl _,Nat.le_refl _,fun j h1 h2=>by omega,.inr ⟨.inl rfl,fD k ho⟩⟩
  ·have h1:=h a og
   cases hb:brk a with
   | true =>
    rw [hb,cond_true] at h1
    exact ⟨a,Nat.le_refl _,by omega,fun j h1 h2=>by omega,.inr ⟨.inr ⟨by omega,hb⟩,fD k h1⟩⟩
   | false =>
    rw [hb,cond_false] at h1
    cases hh:hit a with
    | true =>
     rw [hh,cond_true] at h1
     exact ⟨a,Nat.le_refl _,by omega,fun j h1 h2=>by omega,.inl ⟨by omega,hb,hh,sQ k h1⟩⟩
    | false =>
     rw [hh,cond_false] at h1
     obtain ⟨b,b1,b2,b3,b4⟩:=q9 st h ho k (a+1) og og
     refine ⟨b,by omega,b2,fun j j1 j2=>?_,?_⟩
     ·by_cases e2:j=a
      ·subst e2; exact ⟨hb,hh⟩
      ·exact b3 j og j2
     ·rw [eN k h1]; exact b4
theorem gtm {β:Type} [Inhabited β] {l:List β} {i:Nat} (h:i < l.length):gt l i∈l:=by rw [fL h]; exact List.getElem_mem _
theorem uW {β:Type} [Inhabited β] {l:List β} {x:β} (h:x∈l):∃ i,i < l.length∧gt l i=x:=by
 obtain ⟨i,hi,e⟩:=List.getElem_of_mem h
 exact ⟨i,hi,by rw [fL hi]; exact e⟩
theorem jE {l:List (U Qd)} (hl:∀ u∈l,Tv u.iv) {t:GR} (ht:Tm t) :
 (∃ u∈l,inU u.iv (2*tk t)∧bp l t=(u.f,true))∨((∀ u∈l,¬ inU u.iv (2*tk t))∧(bp l t).2=false):=by
 unfold bp
 generalize (⟨(⟨(⟨false,0⟩:GI),(⟨false,0⟩:GI)⟩:GQ),(⟨(⟨false,0⟩:GI),(⟨false,0⟩:GI)⟩:GQ),(⟨(⟨false,0⟩:GI),(⟨false,0⟩:GI)⟩:GQ)⟩:Qd)=z
 obtain ⟨b,b1,b2,b3,b4⟩:=q9 (B:=fun s=>cM l t s.1 s.2) (fun i=>(i,z)) (n:=l.length) (brk:=fun _=>false) (hit:=fun i=>aT ((gt l i).iv) t t false) (r:=fun i=>((gt l i).f,true)) (o:=fun i=>(i,z))
  (fun i hi=>by
    show cM l t i z=_
    unfold cM
    rw [decide_eq_true (by omega:(i:Int) < (l.length:Int))]; rfl)
  (by
    show cM l t l.length z=_
    unfold cM
    rw [decide_eq_false (by omega:¬ (l.length:Int) < (l.length:Int))]; rfl) (l.length - 0+1) 0 (Nat.zero_le _) og
 rcases b4 with ⟨c1,_,c3,c4⟩ | ⟨c1,c2⟩
 ·exact .inl ⟨gt l b,gtm c1,(sX (hl _ (gtm c1)) ht).1 c3,fin_r c4⟩
 ·right
  have hb:b=l.length:=by
   rcases c1 with c1 | ⟨_,c1⟩
   ·exact c1
   ·cases c1
  subst hb
  refine ⟨fun u hu hi=>?_,by rw [ir c2]; rfl⟩
  obtain ⟨i,hi2,rfl⟩:=uW hu
  have:=(b3 i (Nat.zero_le _) hi2).2
  rw [(sX (hl _ hu) ht).2 hi] at this
  cases this
theorem uo {N:List (U Qd)} (hw:∀ u∈N,Tv u.iv) {t:GR} (ht:Tm t) (hm:∀ p q,p < q→q < N.length→tk (gt N p).iv.hi≤tk (gt N q).iv.hi) :
 ∀ k i j,j - i < k→i≤j→j≤N.length→(∀ p,p < i→tk (gt N p).iv.hi < tk t)→(∀ p,j≤p→p < N.length→tk t≤tk (gt N p).iv.hi) →
  ∃ m,m≤N.length∧bt (fun s=>aL N t s.1 s.2) k (i,j)=.inl (m,m)∧(∀ p,p < m→tk (gt N p).iv.hi < tk t)∧(∀ p,m≤p→p < N.length→tk t≤tk (gt N p).iv.hi)
 | k+1,i,j,hk,hij,hj,h1,h2=>by
  by_cases e:i < j
  ·have hlt:(i+j) / 2 < N.length:=by omega
   have hc:eU (gt N ((i+j) / 2)) t=sgn (tk (gt N ((i+j) / 2)).iv.hi) (tk t):=by
    unfold eU; exact (hw _ (gtm hlt)).2.cmp ht
   by_cases hlt2:tk (gt N ((i+j) / 2)).iv.hi < tk t
   ·have hB:aL N t i j=.go (((i+j) / 2)+1,j):=by
     unfold aL
     rw [decide_eq_true (by omega:(i:Int) < (j:Int)),hc,fO hlt2]; rfl
    rw [eN (B:=fun s=>aL N t s.1 s.2) k hB]
    refine uo hw ht hm k _ _ og og hj (fun p hp=>?_) h2
    by_cases e2:p=(i+j) / 2
    ·rw [e2]; exact hlt2
    ·have:=hm p ((i+j) / 2) og hlt
     omega
   ·have hB:aL N t i j=.go (i,(i+j) / 2):=by
     unfold aL
     rw [decide_eq_true (by omega:(i:Int) < (j:Int)),hc]
     have:decide (sgn (tk (gt N ((i+j) / 2)).iv.hi) (tk t) < 0)=false:=by
      rcases Nat.lt_or_eq_of_le (Nat.le_of_not_lt hlt2) with h3 | h3
      ·rw [gb h3]; rfl
      ·rw [h3,dW]; rfl
     rw [this]; rfl
    rw [eN (B:=fun s=>aL N t s.1 s.2) k hB]
    refine uo hw ht hm k _ _ og og og h1 (fun p hp hp2=>?_)
    by_cases e2:p=(i+j) / 2
    ·rw [e2]; omega
    ·have:=hm ((i+j) / 2) p og hp2
     omega
  ·have hB:aL N t i j=.out (i,j):=by
    unfold aL
    rw [decide_eq_false (by omega:¬ (i:Int) < (j:Int))]; rfl
   have e3:i=j:=by omega
   subst e3
   exact ⟨i,hj,fD k hB,h1,h2⟩
theorem ord_at {N:List (U Qd)} (ho:N.Pairwise fun a b=>ec a.iv < (dL b.iv:Int)) {p q:Nat} (h:p < q) (hq:q < N.length):ec (gt N p).iv < (dL (gt N q).iv:Int):=by
 have:=List.pairwise_iff_getElem.1 ho p q og hq h
 rw [fL og,fL hq]; exact this
theorem At_spec {N:List (U Qd)} (hw:∀ u∈N,Wv u.iv) (ho:N.Pairwise fun a b=>ec a.iv < (dL b.iv:Int)) {t:GR} (ht:Tm t) :
 (∃ u∈N,inU u.iv (2*tk t)∧dq N t=(u.f,true))∨((∀ u∈N,¬ inU u.iv (2*tk t))∧(dq N t).2=false):=by
 have par:∀ i:Iv,(dL i=2*tk i.lo∧i.openLo=false∨dL i=2*tk i.lo+1∧i.openLo=true)∧(ec i=2*(tk i.hi:Int)∧i.openHi=false∨ec i=2*(tk i.hi:Int) - 1∧i.openHi=true):=fun i=>by
  rcases i7 i with ⟨a1,a2⟩ | ⟨a1,a2⟩ <;> rcases nr i with ⟨b1,b2⟩ | ⟨b1,b2⟩ <;> simp [a1,a2,b1,b2]
 have hm:∀ p q,p < q→q < N.length→tk (gt N p).iv.hi≤tk (gt N q).iv.hi:=fun p q h hq=>by
  have h1:=ord_at ho h hq
  have h2:=(hw _ (gtm hq)).le
  have:=par (gt N p).iv
  have:=par (gt N q).iv
  omega
 have hm2:∀ p q,p < q→q < N.length→tk (gt N p).iv.lo≤tk (gt N q).iv.lo:=fun p q h hq=>by
  have h1:=ord_at ho h hq
  have h2:=(hw _ (gtm (by omega:p < N.length))).le
  have:=par (gt N p).iv
  have:=par (gt N q).iv
  omega
 obtain ⟨m,hmn,hl,i1,i2⟩:=uo (fun u hu=>(hw u hu).1) ht hm (N.length - 0+1) 0 N.length og (Nat.zero_le _) (Nat.le_refl _) (fun p hp=>by omega) (fun p h1 h2=>by omega)
 have hbs:(aE N t).1=(m:Int):=by
  unfold aE
  rw [ir hl]; rfl
 unfold dq
 rw [hbs,Int.toNat_natCast]
 generalize (⟨(⟨(⟨false,0⟩:GI),(⟨false,0⟩:GI)⟩:GQ),(⟨(⟨false,0⟩:GI),(⟨false,0⟩:GI)⟩:GQ),(⟨(⟨false,0⟩:GI),(⟨false,0⟩:GI)⟩:GQ)⟩:Qd)=z
 obtain ⟨b,b1,b2,b3,b4⟩:=q9 (B:=fun s=>eF N t s.1 s.2) (fun i=>(i,z)) (n:=N.length) (brk:=fun i=>decide ((an (((gt N i).iv).lo) t)>0))
  (hit:=fun i=>((decide ((an (((gt N i).iv).lo) t) < 0)) || (!((gt N i).iv).openLo)) && ((!(decide (((gt N i).iv).hi=t))) || (!((gt N i).iv).openHi))) (r:=fun i=>((gt N i).f,true)) (o:=fun i=>(i,z))
  (fun i hi=>by
    show eF N t i z=_
    unfold eF
    rw [decide_eq_true (by omega:(i:Int) < (N.length:Int))]; rfl)
  (by
    show eF N t N.length z=_
    unfold eF
    rw [decide_eq_false (by omega:¬ (N.length:Int) < (N.length:Int))]; rfl) (N.length - m+1) m hmn og
 have hk:∀ i,i < N.length→m≤i→decide ((an (((gt N i).iv).lo) t)>0)=false →
  ((((decide ((an (((gt N i).iv).lo) t) < 0)) || (!((gt N i).iv).openLo)) && ((!(decide (((gt N i).iv).hi=t))) || (!((gt N i).iv).openHi)))=true↔inU (gt N i).iv (2*tk t)):=fun i hi hmi hb=>by
  have hv:=(hw _ (gtm hi)).1
  rw [hv.1.cmp ht] at hb ⊢
  have h2:=i2 i hmi hi
  have hp:=par (gt N i).iv
  have he:decide ((gt N i).iv.hi=t)=decide (tk (gt N i).iv.hi=tk t):=decide_eq_decide.2 (hv.2.inj ht).symm
  rw [he]
  unfold inU
  rcases Nat.lt_trichotomy (tk (gt N i).iv.lo) (tk t) with h1 | h1 | h1
  ·rw [fO h1]
   rcases hp with ⟨hp1 | hp1,hp2 | hp2⟩ <;> simp [hp1.1,hp1.2,hp2.1,hp2.2] <;> omega
  ·rw [h1,dW]
   rcases hp with ⟨hp1 | hp1,hp2 | hp2⟩ <;> simp [hp1.1,hp1.2,hp2.1,hp2.2] <;> omega
  ·rw [gb h1] at hb; cases hb
 rcases b4 with ⟨c1,c2,c3,c4⟩ | ⟨c1,c2⟩
 ·exact .inl ⟨gt N b,gtm c1,(hk b c1 b1 c2).1 c3,fin_r c4⟩
 ·right
  refine ⟨fun u hu hi=>?_,by rw [ir c2]; rfl⟩
  obtain ⟨i,hi2,rfl⟩:=uW hu
  have hp:=par (gt N i).iv
  have hi1:=hi.1
  have hi3:=hi.2
  by_cases e1:i < m
  ·have:=i1 i e1
   omega
  ·by_cases e2:i < b
   ·obtain ⟨d1,d2⟩:=b3 i og e2
    rw [(hk i hi2 og d1).2 hi] at d2; cases d2
   ·rcases c1 with c1 | ⟨c1,c3⟩
    ·omega
    ·have hv:=(hw _ (gtm c1)).1
     rw [hv.1.cmp ht] at c3
     have h3:tk t < tk (gt N b).iv.lo:=by
      rcases Nat.lt_trichotomy (tk (gt N b).iv.lo) (tk t) with h1 | h1 | h1
      ·rw [fO h1] at c3; cases c3
      ·rw [h1,dW] at c3; cases c3
      ·exact h1
     by_cases e3:i=b
     ·subst e3; omega
     ·have:=hm2 b i og hi2
      omega
end Go.Sx
namespace Go.Sx
theorem vb {n:List (U Qd)} (hw:∀ u∈n,Wv u.iv):Cn (aJ n)∧∀ x,inP (aJ n) x↔∃ u∈n,inU u.iv x:=by
 have hi:=mw hw
 obtain ⟨h1,h2⟩:=v7 hi
 unfold aJ
 refine ⟨h1,fun x=>(h2 x).trans ?_⟩
 rw [oT]
 unfold inP
 constructor
 ·rintro ⟨i,hi,h⟩
  obtain ⟨u,hu,rfl⟩:=List.mem_map.1 hi
  exact ⟨u,hu,ot.1 h⟩
 ·rintro ⟨u,hu,h⟩
  exact ⟨u.iv,List.mem_map.2 ⟨u,hu,rfl⟩,ot.2 h⟩
theorem ym {n:List (U Qd)} (hw:∀ u∈n,Wv u.iv):Ts (am n [])∧∀ y,y∈am n []↔En n y:=by
 rw [mC]
 obtain ⟨h1,h2⟩:=mT (l:=n.map (·.iv)) (fun i hi=>by obtain ⟨x,hx,rfl⟩:=List.mem_map.1 hi; exact (hw x hx).1)
 refine ⟨h1,fun y=>(h2 y).trans ?_⟩
 constructor
 ·rintro ⟨i,hi,h⟩
  obtain ⟨x,hx,rfl⟩:=List.mem_map.1 hi
  exact ⟨x,hx,h⟩
 ·rintro ⟨x,hx,h⟩
  exact ⟨x.iv,List.mem_map.2 ⟨x,hx,rfl⟩,h⟩
def FarE (n:List (U Qd)):Prop:=(∀ e,En n e→10≤tk e∧tk e < 435)∧∀ e f,En n e→En n f→Far e f
theorem yp {n:List (U Qd)} (hw:∀ u∈n,Wv u.iv) (hf:FarE n):∀ i,0 < i→i < (am n []).length→BtP (gt (am n []) (i - 1)) (gt (am n []) i)∧tk (gt (am n []) (i - 1)) < 435∧10≤tk (gt (am n []) (i - 1)):=fun i h0 hi=>by
 obtain ⟨⟨h1,h2⟩,h3⟩:=ym hw
 have m1:=gtm (by omega:i - 1 < (am n []).length)
 have m2:=gtm hi
 have hlt:=List.pairwise_iff_getElem.1 h2 (i - 1) i og hi og
 rw [← fL (by omega:i - 1 < (am n []).length),← fL hi] at hlt
 have f1:=hf.1 _ ((h3 _).1 m1)
 have f2:=hf.1 _ ((h3 _).1 m2)
 have f3:=hf.2 _ _ ((h3 _).1 m1) ((h3 _).1 m2)
 unfold Far at f3
 exact ⟨bt_of (h1 _ m1) (h1 _ m2) f1.1 f1.2 f2.2 og,f1.2,f1.1⟩
theorem sD (n:Int) (h:n=-1∨n=1000∨(0≤n∧n < 45)):Tm (bh n):=⟨n,false,h,by unfold ae; rfl⟩
theorem qO {n:List (U Qd)} (hw:∀ u∈n,Wv u.iv) (hf:FarE n):∀ t∈bk n,Tm t:=by
 have hT:=(ym hw).1.1
 have hB:=yp hw hf
 unfold bk
 have key:∀ k i (out:List GR),(∀ t∈out,Tm t)→∀ t∈fin (bt (fun s=>bF n s.1 s.2) k (out,i)) (fun s=>iu n s.1 s.2) (fun r=>r),Tm t:=by
  intro k
  induction k with
  | zero=>intro i out h; exact h
  | succ k ih =>
   intro i out h
   by_cases hi:i < (am n []).length
   ·have hg:=hT _ (gtm hi)
    have e1:∀ t∈out++[gt (am n []) i],Tm t:=fun t ht=>by
     rcases List.mem_append.1 ht with ht | ht
     ·exact h t ht
     ·rw [List.mem_singleton.1 ht]; exact hg
    by_cases h0:0 < i
    ·have hb:=hB i h0 hi
     have hB1:bF n out i=.go (((out++[gt (am n []) i])++[dP ((cC (gt (am n []) (i - 1)) (gt (am n []) i)).1)]),i+1):=by
      unfold bF
      rw [decide_eq_true (by omega:(i:Int) < ((am n []).length:Int)),decide_eq_true (by omega:(i:Int)>0)]
      rw [show (cC (gt (am n []) (i - 1)) (gt (am n []) i)).2=0 by unfold cC; rfl]
      rfl
     rw [eN (B:=fun s=>bF n s.1 s.2) k hB1]
     refine ih _ _ fun t ht=>?_
     rcases List.mem_append.1 ht with ht | ht
     ·exact e1 t ht
     ·rw [List.mem_singleton.1 ht]
      have:=(nx_ok hb.1.1 hb.2.2 hb.2.1).2.2.1
      have e:(cC (gt (am n []) (i - 1)) (gt (am n []) i)).1=nxt (gt (am n []) (i - 1)):=by unfold cC gf nxt; rfl
      rw [e]; exact this
    ·have hB1:bF n out i=.go (out++[gt (am n []) i],i+1):=by
      unfold bF
      rw [decide_eq_true (by omega:(i:Int) < ((am n []).length:Int)),decide_eq_false (by omega:¬ (i:Int)>0)]
      rfl
     rw [eN (B:=fun s=>bF n s.1 s.2) k hB1]
     exact ih _ _ e1
   ·have hB1:bF n out i=.out (out,i):=by
     unfold bF
     rw [decide_eq_false (by omega:¬ (i:Int) < ((am n []).length:Int))]; rfl
    rw [fD (B:=fun s=>bF n s.1 s.2) k hB1]
    exact h
 exact key _ _ _ fun t ht=>by
  simp only [List.mem_cons,List.not_mem_nil,or_false] at ht
  rcases ht with rfl | rfl
  ·exact sD _ (.inl rfl)
  ·exact sD _ (.inr (.inl rfl))
end Go.Sx
namespace Go.Sx
theorem bn_is (l:List Stp):bn (aM l)=(bo (aM l),0) :=
 m9 (fun a b=>(gy a b).1) (List.Perm.refl _) (fun x hx=>(qU l x hx).1) (kP l).2
open Go Go.RowKit Go.Proofs
end Go.Sx
