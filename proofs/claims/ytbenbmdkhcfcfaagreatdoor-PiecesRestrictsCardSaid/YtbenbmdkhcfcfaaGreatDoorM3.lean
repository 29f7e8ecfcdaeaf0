import Derived.Test.YtbenbmdkhcfcfaaGreatDoorM1
import Derived.Test.YtbenbmdkhcfcfaaGreatDoorGarith
import Derived.Test.YtbenbmdkhcfcfaaGreatDoorQ2
import Derived.Test.YtbenbmdkhcfcfaaGreatDoorQ3
import Derived.Test.YtbenbmdkhcfcfaaGreatDoorQ4
set_option linter.unusedVariables false
set_option linter.unusedSimpArgs false
namespace Go.Sx
def nxP {S R:Type} (I:S→Prop) (Q:R→Prop):Nx S R→Prop
 | .go s=>I s
 | .out s=>I s
 | .ret r=>Q r
def smP {S R:Type} (I:S→Prop) (Q:R→Prop):S ⊕ R→Prop
 | .inl s=>I s
 | .inr r=>Q r
theorem pc {S R:Type} {B:S→Nx S R} {I:S→Prop} {Q:R→Prop} (h:∀ s,I s→nxP I Q (B s)):∀ (n:Nat) (s:S),I s→smP I Q (br B n s)
 | 0,s,hs=>hs
 | n+1,s,hs=>by
  have h1:=h s hs
  unfold br
  revert h1
  cases B s with
  | go s'=>exact fun h1=>pc h n s' h1
  | out s'=>exact fun h1=>h1
  | ret r=>exact fun h1=>h1
def Fs (f:Qd):Prop:=f=default∨(∃ s,f=ak s)∨∃ c:Int,f=aC (ah (Int.tmod c 4))
def pUn (t:GR) (f:Qd):U Qd:=⟨⟨t,t,false,false⟩,f⟩
def bPt (s:Stp) (before:Qd) (t:GR):List (U Qd) :=
 bif ((((s.point % 4):Nat):Int) == ((1:Nat):Int)) then [pUn t (ak s)]
 else bif ((((s.point % 4):Nat):Int) == ((2:Nat):Int)) then [pUn t before]
 else bif ((((s.point % 4):Nat):Int) == ((3:Nat):Int)) then [pUn t (aC (ah (Int.tmod s.c0 4)))]
 else []
def bPs (s:Stp) (before:Qd) (t:GR) (taken:Bool):List (U Qd) :=
 bif taken then [] else bif ((((s.piece % 4):Nat):Int) == ((2:Nat):Int)) then [] else bPt s before t
def bGp (s:Stp) (t t':GR) (taken:Bool):List (U Qd) :=
 bif ((((s.piece % 4):Nat):Int) != ((0:Nat):Int)) then [⟨⟨t,t',!(((((s.piece % 4):Nat):Int) == ((2:Nat):Int)) && !taken),!((((s.piece % 4):Nat):Int) == ((3:Nat):Int))⟩,ak s⟩] else []
theorem oz (l:List Stp) (out:List (U Qd)) (a:Nat) (root taken:Bool) (i:Nat) (before:Qd) :
 cK l out a root taken i before =
  bif ((decide ((i:Int) < (l.length:Int))) && (decide ((i:Int) < 8))) then
   .go (out++(bPs (gt l i) before (ae (a:Int) root) taken++bGp (gt l i) (ae (a:Int) root) (ae (((a+3)+((gt l i).length % 3):Nat):Int) ((gt l i).root)) taken),
    ((a+3)+((gt l i).length % 3)),(gt l i).root,((((gt l i).piece % 4:Nat):Int) == ((3:Nat):Int)),(i+1),ak (gt l i))
  else .out (out,a,root,taken,i,before):=by
 unfold cK
 congr 1
 generalize gt l i=s
 unfold bPs bGp bPt pUn
 cases e2:((((s.piece % 4):Nat):Int) == ((2:Nat):Int)) <;> cases taken <;>
  simp only [Bool.not_true,Bool.not_false,Bool.and_true,Bool.and_false,cond_true,cond_false,Bool.false_eq_true] <;>
  cases ((((s.piece % 4):Nat):Int) != ((0:Nat):Int)) <;> simp only [cond_true,cond_false,List.append_nil,List.nil_append] <;>
  cases ((((s.point % 4):Nat):Int) == ((1:Nat):Int)) <;> simp only [cond_true,cond_false,List.append_nil,List.nil_append,List.append_assoc] <;>
  cases ((((s.point % 4):Nat):Int) == ((2:Nat):Int)) <;> simp only [cond_true,cond_false,List.append_nil,List.nil_append,List.append_assoc] <;>
  cases ((((s.point % 4):Nat):Int) == ((3:Nat):Int)) <;> simp only [cond_true,cond_false,List.append_nil,List.nil_append,List.append_assoc]
theorem bUs_ok {taken p0 p2 p3:Bool} {t t':GR} {f:Qd} {P:List (U Qd)} (ht:Tm t) (ht':Tm t') (hlt:tk t < tk t') (hf:Fs f)
 (hP:P=[]∨(taken=false∧p2=false∧∃ g,Fs g∧P=[pUn t g])) :
 (∀ x∈P++(bif p0 then [(⟨⟨t,t',!(p2 && !taken),!p3⟩,f⟩:U Qd)] else []),Wv x.iv∧Fs x.f∧ee x.iv < 2*tk t'+(bif p3 then 1 else 0)∧(2*tk t+(bif taken then 1 else 0):Int)≤dL x.iv) ∧
 (P++(bif p0 then [(⟨⟨t,t',!(p2 && !taken),!p3⟩,f⟩:U Qd)] else [])).Pairwise fun a b=>Dj a.iv b.iv:=by
 have hg:∀ x∈(bif p0 then [(⟨⟨t,t',!(p2 && !taken),!p3⟩,f⟩:U Qd)] else []),x=⟨⟨t,t',!(p2 && !taken),!p3⟩,f⟩:=by
  cases p0
  ·intro x hx; cases hx
  ·intro x hx; exact List.mem_singleton.1 hx
 have gok:Wv (⟨t,t',!(p2 && !taken),!p3⟩:Iv):=⟨⟨ht,ht'⟩,Nat.le_of_lt hlt,fun e=>by have e:tk t=tk t':=e; omega⟩
 have g1:ee (⟨t,t',!(p2 && !taken),!p3⟩:Iv) < 2*tk t'+(bif p3 then 1 else 0):=by
  unfold ee; cases p3 <;> simp <;> omega
 have g2:(2*tk t+(bif taken then 1 else 0):Int)≤dL (⟨t,t',!(p2 && !taken),!p3⟩:Iv):=by
  unfold dL; cases p2 <;> cases taken <;> simp <;> omega
 rcases hP with rfl | ⟨h1,h2,g,hgf,rfl⟩
 ·rw [List.nil_append]
  refine ⟨fun x hx=>by rw [hg x hx]; exact ⟨gok,hf,g1,g2⟩,?_⟩
  cases p0
  ·exact List.Pairwise.nil
  ·exact List.pairwise_singleton _ _
 ·subst h1 h2
  have hpw:Wv (pUn t g).iv:=⟨⟨ht,ht⟩,Nat.le_refl _,fun _=>⟨rfl,rfl⟩⟩
  have pl:ee (pUn t g).iv=2*tk t:=by unfold ee pUn; simp
  have pf:dL (pUn t g).iv=2*tk t:=by unfold dL pUn; simp
  refine ⟨fun x hx=>?_,?_⟩
  ·rcases List.mem_append.1 hx with hx | hx
   ·rw [List.mem_singleton.1 hx]
    refine ⟨hpw,hgf,?_,?_⟩
    ·rw [pl]; cases p3 <;> simp <;> omega
    ·rw [pf]; simp <;> omega
   ·rw [hg x hx]; exact ⟨gok,hf,g1,g2⟩
  ·rw [List.singleton_append,List.pairwise_cons]
   refine ⟨fun y hy=>?_,?_⟩
   ·rw [hg y hy]
    refine .inl ?_
    rw [pl]
    unfold dL; simp <;> omega
   ·cases p0
    ·exact List.Pairwise.nil
    ·exact List.pairwise_singleton _ _
def BI (s:(List (U Qd))×Nat×Bool×Bool×Nat×Qd):Prop :=
 s.2.1≤5*s.2.2.2.2.1∧s.2.2.2.2.1≤8∧Fs s.2.2.2.2.2∧(∀ x∈s.1,Wv x.iv∧Fs x.f∧ee x.iv < ((2*(10*s.2.1+10+(bif s.2.2.1 then 14 else 0))+(bif s.2.2.2.1 then 1 else 0):Nat):Int))∧s.1.Pairwise fun a b=>Dj a.iv b.iv
theorem yD (l:List Stp) (s:(List (U Qd))×Nat×Bool×Bool×Nat×Qd) (h:BI s) :
 nxP BI (fun _=>False) (cK l s.1 s.2.1 s.2.2.1 s.2.2.2.1 s.2.2.2.2.1 s.2.2.2.2.2):=by
 obtain ⟨out,a,root,taken,i,before⟩:=s
 obtain ⟨h1,h2,h3,h4,h5⟩:=h
 simp only at h1 h2 h3 h4 h5
 rw [oz]
 cases hc:((decide ((i:Int) < (l.length:Int))) && (decide ((i:Int) < 8))) with
 | false=>exact ⟨h1,h2,h3,h4,h5⟩
 | true =>
  rw [cond_true]
  rw [Bool.and_eq_true,decide_eq_true_eq,decide_eq_true_eq] at hc
  have hi:i < 8:=by omega
  have hm:(gt l i).length % 3 < 3:=Nat.mod_lt _ DC
  have e1:=tk_at a root og
  have e2:=tk_at ((a+3)+((gt l i).length % 3)) (gt l i).root og
  have hlt:tk (ae (a:Int) root) < tk (ae (((a+3)+((gt l i).length % 3):Nat):Int) ((gt l i).root)):=by
   rw [e1,e2]; cases root <;> cases (gt l i).root <;> simp <;> omega
  have hF:Fs (ak (gt l i)):=.inr (.inl ⟨_,rfl⟩)
  have hP:bPs (gt l i) before (ae (a:Int) root) taken=[]∨(taken=false∧((((gt l i).piece % 4:Nat):Int) == ((2:Nat):Int))=false∧∃ g,Fs g∧bPs (gt l i) before (ae (a:Int) root) taken=[pUn (ae (a:Int) root) g]):=by
   unfold bPs bPt
   cases taken
   ·rw [cond_false]
    cases ((((gt l i).piece % 4:Nat):Int) == ((2:Nat):Int))
    ·rw [cond_false]
     cases ((((gt l i).point % 4:Nat):Int) == ((1:Nat):Int))
     ·rw [cond_false]
      cases ((((gt l i).point % 4:Nat):Int) == ((2:Nat):Int))
      ·rw [cond_false]
       cases ((((gt l i).point % 4:Nat):Int) == ((3:Nat):Int))
       ·exact .inl rfl
       ·exact .inr ⟨rfl,rfl,_,.inr (.inr ⟨_,rfl⟩),rfl⟩
      ·exact .inr ⟨rfl,rfl,_,h3,rfl⟩
     ·exact .inr ⟨rfl,rfl,_,hF,rfl⟩
    ·exact .inl rfl
   ·exact .inl rfl
  obtain ⟨k1,k2⟩:=bUs_ok (p0:=((((gt l i).piece % 4:Nat):Int) != ((0:Nat):Int))) (p3:=((((gt l i).piece % 4:Nat):Int) == ((3:Nat):Int))) (tm_at a root og) (tm_at ((a+3)+((gt l i).length % 3)) (gt l i).root og) hlt hF hP
  refine ⟨?_,?_,hF,fun x hx=>?_,?_⟩
  ·show (a+3)+((gt l i).length % 3)≤5*(i+1); omega
  ·show i+1≤8; omega
  ·show Wv x.iv∧Fs x.f∧ee x.iv < ((2*(10*((a+3)+((gt l i).length % 3))+10+(bif (gt l i).root then 14 else 0))+(bif ((((gt l i).piece % 4:Nat):Int) == ((3:Nat):Int)) then 1 else 0):Nat):Int)
   rw [e1,e2] at hlt
   rcases List.mem_append.1 hx with hx | hx
   ·obtain ⟨a1,a2,a3⟩:=h4 x hx
    refine ⟨a1,a2,?_⟩
    clear h4 k1 k2 hP e1 e2 h5
    generalize ((((gt l i).piece % 4:Nat):Int) == ((3:Nat):Int))=p3 at *
    generalize (gt l i).root=rt at *
    cases root <;> cases taken <;> cases rt <;> cases p3 <;> simp only [cond_true,cond_false] at*<;> omega
   ·obtain ⟨a1,a2,a3,_⟩:=k1 x hx
    rw [e2] at a3
    refine ⟨a1,a2,?_⟩
    clear h4 k1 k2 hP e1 e2 h5
    generalize ((((gt l i).piece % 4:Nat):Int) == ((3:Nat):Int))=p3 at *
    generalize (gt l i).root=rt at *
    cases rt <;> cases p3 <;> simp only [cond_true,cond_false] at*<;> omega
  ·show (out++_).Pairwise _
   rw [List.pairwise_append]
   refine ⟨h5,k2,fun x hx y hy=>.inl ?_⟩
   obtain ⟨_,_,a3⟩:=h4 x hx
   obtain ⟨_,_,_,a4⟩:=k1 y hy
   rw [e1] at a4
   clear h4 k1 k2 hP e1 e2 h5 hlt
   cases root <;> cases taken <;> simp only [cond_true,cond_false] at*<;> omega
theorem kO (l:List Stp):(∀ x∈aq l,Wv x.iv∧Fs x.f)∧(aq l).Pairwise fun a b=>Dj a.iv b.iv:=by
 have h:=pc (R:=List (U Qd)) (Q:=fun _=>False) (B:=fun s=>cK l s.1 s.2.1 s.2.2.1 s.2.2.2.1 s.2.2.2.2.1 s.2.2.2.2.2) (I:=BI) (yD l) ((8 - 0)+1) ([],0,false,false,0,default)
  ⟨by decide,by decide,.inl rfl,fun x hx=>(by cases hx),List.Pairwise.nil⟩
 have e:∃ s,BI s∧aq l=s.1:=by
  unfold aq
  revert h
  generalize br _ _ _=X
  intro h
  match X,h with
  | .inl s,h=>exact ⟨s,h,rfl⟩
 obtain ⟨s,hs,e⟩:=e
 rw [e]
 exact ⟨fun x hx=>⟨(hs.2.2.2.1 x hx).1,(hs.2.2.2.1 x hx).2.1⟩,hs.2.2.2.2⟩
end Go.Sx
namespace Go.Sx
theorem foldl_cons {α β:Type} (g:α→β):∀ (l:List α) (o:List β),l.foldl (fun o i=>g i::o) o=(l.map g).reverse++o
 | [],o=>rfl
 | x::l,o=>by rw [List.foldl_cons,foldl_cons g l]; simp
theorem lM {α:Type} [Inhabited α] {z:α} {u:List (U α)} {E:List GR} {i:Nat} (h:i < (iH z u E).length):gt (iH z u E) i=kx u (gt (gf z E) i):=by
 have h2:i < (gf z E).length:=by simpa [iH] using h
 have:gt ((gf z E).map (kx u)) i=kx u (gt (gf z E) i):=by
  rw [fK (by simpa using h2),fK h2,List.getElem_map]
 exact this
theorem pj {α:Type} [Inhabited α] {z:α} {u:List (U α)} {E:List GR} (hE:Ts E):Turns tk (iH z u E):=by
 have hl:(iH z u E).length=(gf z E).length:=by unfold iH; rw [List.length_map]
 have ok:∀ {i},i < (iH z u E).length→_:=fun {i} hi=>rT (z:=z) hE (a:=gt (gf z E) i) (by rw [fK (hl ▸ hi)]; exact List.getElem_mem _)
 refine ⟨fun i hi=>?_,fun i hi=>?_,fun i hi hg=>?_,fun i hi hg=>?_⟩
 ·rw [lM hi,(gG u _).2.1]; exact (rU i (hl ▸ hi)).1
 ·rw [lM hi,lM (by omega:i < (iH z u E).length),(gG u _).1,(gG u _).2.2]
  exact (rU i og).2 (hl ▸ hi)
 ·rw [lM hi] at hg ⊢
  rw [(gG u _).2.1] at hg
  rw [(gG u _).1,(gG u _).2.2]
  exact (ok hi).2.2.1 hg
 ·rw [lM hi] at hg ⊢
  rw [(gG u _).2.1] at hg
  rw [(gG u _).1,(gG u _).2.2]
  exact (ok hi).2.2.2 hg
end Go.Sx
namespace Go.Sx
def iS (a:GI):Int:=bif a.neg then -(a.mag:Int) else (a.mag:Int)
def IOk (a:GI):Prop:=a.mag=0→a.neg=false
theorem oe (s:Bool) (m:Nat):IOk (aP s m):=by
 intro h
 have h:m=0:=h
 subst h
 cases s <;> rfl
theorem jn (s:Bool) (m:Nat):iS (aP s m)=bif s then -(m:Int) else (m:Int):=by
 unfold iS aP
 by_cases h:m=0
 ·subst h; cases s <;> rfl
 ·cases s <;> simp [h]
theorem ival_inj {a b:GI} (ha:IOk a) (hb:IOk b) (h:iS a=iS b):a=b:=by
 obtain ⟨s,m⟩:=a
 obtain ⟨r,n⟩:=b
 unfold iS at h
 unfold IOk at ha hb
 simp only at ha hb h
 cases s <;> cases r <;> simp only [cond_true,cond_false] at h
 ·have:m=n:=by omega
  rw [this]
 ·have h1:m=0:=by omega
  have h2:n=0:=by omega
  exact absurd (hb h2) DC
 ·have h1:m=0:=by omega
  exact absurd (ha h1) DC
 ·have:m=n:=by omega
  rw [this]
theorem qU (n:Int):IOk (ar n):=by
 unfold IOk ar
 intro h
 have h:n.natAbs=0:=h
 exact decide_eq_false og
theorem qk (n:Int):iS (ar n)=n:=by
 unfold iS ar
 by_cases h:n < 0
 ·simp only [decide_eq_true h,cond_true]; omega
 ·simp only [decide_eq_false h,cond_false]; omega
theorem wV (m:Nat):0≤(m:Int).sign:=by
 cases m with
 | zero=>decide
 | succ m=>exact Int.le_of_lt (by rw [Int.sign_eq_one_of_pos og]; decide)
theorem rW (a:GI):dx a=(iS a).sign:=by
 obtain ⟨s,m⟩:=a
 unfold dx iS
 by_cases h:m=0
 ·subst h; cases s <;> rfl
 ·rw [decide_eq_false h]
  cases s
  ·exact (Int.sign_eq_one_of_pos (by show (0:Int) < (m:Int); omega)).symm
  ·exact (Int.sign_eq_neg_one_of_neg (by show -(m:Int) < 0; omega)).symm
theorem qT (a:GI):iS (aA a)=- iS a:=by
 unfold aA
 rw [jn]
 unfold iS
 cases a.neg <;> simp
theorem yn (a b:Nat):bq a b=if a < b then -1 else if b < a then 1 else 0:=by
 unfold bq
 rcases Nat.lt_trichotomy a b with h | h | h
 ·rw [show Nat.blt a b=true by rw [Nat.blt_eq]; exact h,cond_true,if_pos h]
 ·subst h
  have h1:Nat.blt a a=false:=by
   cases e:Nat.blt a a with
   | false=>rfl
   | true=>rw [Nat.blt_eq] at e; omega
  rw [h1,Nat.beq_refl,if_neg (Nat.lt_irrefl _),if_neg (Nat.lt_irrefl _)]; rfl
 ·have h1:Nat.blt a b=false:=by
   cases e:Nat.blt a b with
   | false=>rfl
   | true=>rw [Nat.blt_eq] at e; omega
  have h2:Nat.beq a b=false:=by
   cases e:Nat.beq a b with
   | false=>rfl
   | true=>have:=Nat.eq_of_beq_eq_true e; omega
  rw [h1,h2,if_neg og,if_pos h]; rfl
theorem Add_val (a b:GI):iS (aJ a b)=iS a+iS b:=by
 obtain ⟨s,m⟩:=a
 obtain ⟨r,n⟩:=b
 unfold aJ df dy
 simp only [yn]
 cases s <;> cases r
 ·show iS (aP false (m+n))=(m:Int)+n
  rw [jn]; simp
 ·show iS (bif decide (_≥(0:Int)) then aP false (m - n) else aP true (n - m))=(m:Int)+-n
  split <;> rename_i h1
  ·simp only [show decide ((-1:Int)≥0)=false from rfl,cond_false,jn,cond_true]; omega
  ·split
   ·simp only [show decide ((1:Int)≥0)=true from rfl,cond_true,jn,cond_false]; omega
   ·simp only [show decide ((0:Int)≥0)=true from rfl,cond_true,jn,cond_false]; omega
 ·show iS (bif decide (_≥(0:Int)) then aP true (m - n) else aP false (n - m))=-(m:Int)+n
  split <;> rename_i h1
  ·simp only [show decide ((-1:Int)≥0)=false from rfl,cond_false,jn,cond_true]; omega
  ·split
   ·simp only [show decide ((1:Int)≥0)=true from rfl,cond_true,jn,cond_false]; omega
   ·simp only [show decide ((0:Int)≥0)=true from rfl,cond_true,jn,cond_false]; omega
 ·show iS (aP true (m+n))=-(m:Int)+-n
  rw [jn,cond_true]; omega
theorem Add_ok (a b:GI):IOk (aJ a b):=by
 unfold aJ
 cases (a.neg == b.neg)
 ·rw [cond_false]
  cases (decide ((bq a.mag b.mag)≥0)) <;> exact oe _ _
 ·exact oe _ _
theorem yP (a b:GI):IOk (ab a b):=oe _ _
theorem tw (a:GI):IOk (aA a):=oe _ _
theorem oB (a b:GI):iS (ab a b)=iS a*iS b:=by
 obtain ⟨s,m⟩:=a
 obtain ⟨r,n⟩:=b
 unfold ab fU
 rw [jn]
 unfold iS
 cases s <;> cases r <;> simp [Int.neg_mul,Int.mul_neg]
def icmp (a b:Int):Int:=if a < b then -1 else if b < a then 1 else 0
theorem v7 (a b:Int):dg a b=icmp a b:=by
 unfold dg icmp ia
 rcases Int.lt_trichotomy a b with h | h | h
 ·simp [h]
 ·subst h; simp
 ·simp [h,show ¬ a < b by omega]
theorem ui {a b:GI} (ha:IOk a) (hb:IOk b):dN a b=icmp (iS a) (iS b):=by
 obtain ⟨s,m⟩:=a
 obtain ⟨r,n⟩:=b
 unfold dN
 rw [v7,rW,rW,yn]
 unfold iS icmp
 unfold IOk at ha hb
 simp only at ha hb
 cases s <;> cases r
 ·simp only [bne_self_eq_false,cond_false]
  rcases Nat.lt_trichotomy m n with h | h | h
  ·rw [if_pos h,if_pos og]
  ·subst h; simp
  ·rw [if_neg og,if_pos h,if_neg og,if_pos og]
 ·have:n≠0:=fun e=>absurd (hb e) DC
  have e1:(-(n:Int)).sign=-1:=Int.sign_eq_neg_one_of_neg og
  have e2:0≤(m:Int).sign:=wV m
  show (if (m:Int).sign < (-(n:Int)).sign then (-1:Int) else if (-(n:Int)).sign < (m:Int).sign then 1 else 0)=if (m:Int) < -(n:Int) then -1 else if -(n:Int) < (m:Int) then 1 else 0
  simp only [e1,if_neg (show ¬ (m:Int).sign < -1 by omega),if_pos (show (-1:Int) < (m:Int).sign by omega),if_neg (show ¬ (m:Int) < -(n:Int) by omega),if_pos (show -(n:Int) < (m:Int) by omega)]
 ·have:m≠0:=fun e=>absurd (ha e) DC
  have e1:(-(m:Int)).sign=-1:=Int.sign_eq_neg_one_of_neg og
  have e2:0≤(n:Int).sign:=wV n
  show (if (-(m:Int)).sign < (n:Int).sign then (-1:Int) else if (n:Int).sign < (-(m:Int)).sign then 1 else 0)=if -(m:Int) < (n:Int) then -1 else if (n:Int) < -(m:Int) then 1 else 0
  simp only [e1,if_pos (show (-1:Int) < (n:Int).sign by omega),if_pos (show -(m:Int) < (n:Int) by omega)]
 ·simp only [bne_self_eq_false,cond_false,cond_true]
  rcases Nat.lt_trichotomy m n with h | h | h
  ·rw [if_pos h,if_neg og,if_pos og]; rfl
  ·subst h; simp
  ·rw [if_neg og,if_pos h,if_pos og]
theorem kt (a:GI):(iS a).natAbs=a.mag:=by unfold iS; cases a.neg <;> simp
theorem uD {a b:GI} (hb:b.neg=false) (h0:b.mag≠0) (hd:b.mag ∣ a.mag):aO a b=aP a.neg (a.mag / b.mag):=by
 unfold aO aQ bt
 rw [decide_eq_false h0,cond_false,Nat.mod_eq_zero_of_dvd hd,hb]
 simp
def z0:GI:=⟨false,0⟩
def oV (x:GQ):Nat:=if x.den=z0 then 1 else x.den.mag
def QOk (x:GQ):Prop:=IOk x.num∧(x.den=z0∨(x.den.neg=false∧1 < x.den.mag))∧Nat.Coprime x.num.mag (oV x)
def gO (x:GQ):Rat:=(iS x.num:Rat) / (oV x:Rat)
theorem QOk.pos {x:GQ} (h:QOk x):0 < oV x:=by
 unfold oV
 split
 ·decide
 ·rename_i e
  rcases h.2.1 with h1 | ⟨_,h1⟩
  ·exact absurd h1 e
  ·omega
theorem n7 {x:GQ} (h:QOk x):gO x=⟨iS x.num,oV x,Nat.ne_of_gt h.pos,by rw [kt]; exact h.2.2⟩:=by
 rw [Rat.mk_eq_mkRat,Rat.mkRat_eq_div]; rfl
theorem rc {x y:GQ} (hx:QOk x) (hy:QOk y) (h:gO x=gO y):x=y:=by
 rw [n7 hx,n7 hy] at h
 injection h with h1 h2
 obtain ⟨n,d⟩:=x
 obtain ⟨m,e⟩:=y
 have e1:n=m:=ival_inj hx.1 hy.1 h1
 have e2:d=e:=by
  unfold oV at h2
  have hx2:=hx.2.1
  have hy2:=hy.2.1
  simp only at h2 hx2 hy2
  by_cases c1:d=z0
  ·by_cases c2:e=z0
   ·rw [c1,c2]
   ·rw [if_pos c1,if_neg c2] at h2
    rcases hy2 with h3 | ⟨_,h3⟩
    ·exact absurd h3 c2
    ·omega
  ·by_cases c2:e=z0
   ·rw [if_neg c1,if_pos c2] at h2
    rcases hx2 with h3 | ⟨_,h3⟩
    ·exact absurd h3 c1
    ·omega
   ·rw [if_neg c1,if_neg c2] at h2
    obtain ⟨a1,a2⟩:=hx2.resolve_left c1
    obtain ⟨b1,b2⟩:=hy2.resolve_left c2
    obtain ⟨s,p⟩:=d
    obtain ⟨r,q⟩:=e
    simp only at a1 b1 h2
    rw [a1,b1,h2]
 rw [e1,e2]
theorem xr:iS rational_one=1:=qk 1
theorem np {x:GQ} (h:QOk x):iS (aa x)=oV x∧(aa x).neg=false:=by
 unfold aa oV
 by_cases e:x.den=z0
 ·rw [decide_eq_true (show x.den=⟨false,0⟩ from e),if_pos e]
  exact ⟨xr,rfl⟩
 ·rw [decide_eq_false (show ¬ x.den=⟨false,0⟩ from e),if_neg e,cond_false]
  obtain ⟨h1,h2⟩:=h.2.1.resolve_left e
  refine ⟨?_,h1⟩
  unfold iS
  rw [h1]; rfl
theorem tg {n d:GI} (hn:IOk n) (hdn:d.neg=false) (hd:d.mag≠0) :
 QOk (bif (decide ((aO d (a7 n d))=rational_one)) then (⟨(aO n (a7 n d)),(⟨false,0⟩:GI)⟩:GQ) else (⟨(aO n (a7 n d)),(aO d (a7 n d))⟩:GQ)) ∧
 gO (bif (decide ((aO d (a7 n d))=rational_one)) then (⟨(aO n (a7 n d)),(⟨false,0⟩:GI)⟩:GQ) else (⟨(aO n (a7 n d)),(aO d (a7 n d))⟩:GQ))=(iS n:Rat) / (d.mag:Rat):=by
 have hg:0 < Nat.gcd n.mag d.mag:=Nat.gcd_pos_of_pos_right _ og
 have q1:aO d (a7 n d)=aP false (d.mag / Nat.gcd n.mag d.mag):=by
  have:=uD (a:=d) (b:=a7 n d) rfl (by show Nat.gcd n.mag d.mag≠0; omega) (Nat.gcd_dvd_right _ _)
  rw [hdn] at this
  exact this
 have q2:aO n (a7 n d)=aP n.neg (n.mag / Nat.gcd n.mag d.mag) :=
  uD (a:=n) (b:=a7 n d) rfl (by show Nat.gcd n.mag d.mag≠0; omega) (Nat.gcd_dvd_left _ _)
 rw [q1,q2]
 have hdp:0 < d.mag / Nat.gcd n.mag d.mag:=Nat.div_pos (Nat.le_of_dvd og (Nat.gcd_dvd_right _ _)) hg
 have hcop:Nat.Coprime (n.mag / Nat.gcd n.mag d.mag) (d.mag / Nat.gcd n.mag d.mag):=Nat.coprime_div_gcd_div_gcd hg
 have hval:(iS (aP n.neg (n.mag / Nat.gcd n.mag d.mag)):Rat) / ((d.mag / Nat.gcd n.mag d.mag:Nat):Rat)=(iS n:Rat) / (d.mag:Rat):=by
  have e1:iS n=iS (aP n.neg (n.mag / Nat.gcd n.mag d.mag))*(Nat.gcd n.mag d.mag:Int):=by
   rw [jn]
   have:=Nat.div_mul_cancel (Nat.gcd_dvd_left n.mag d.mag)
   unfold iS
   cases n.neg
   ·simp only [cond_false]; rw [← Int.natCast_mul,this]
   ·simp only [cond_true]; rw [Int.neg_mul,← Int.natCast_mul,this]
  have e2:d.mag=(d.mag / Nat.gcd n.mag d.mag)*Nat.gcd n.mag d.mag:=(Nat.div_mul_cancel (Nat.gcd_dvd_right n.mag d.mag)).symm
  have g0:((Nat.gcd n.mag d.mag:Nat):Rat)≠0:=by
   intro e
   have:Nat.gcd n.mag d.mag=0:=by exact_mod_cast e
   omega
  have d0:((d.mag / Nat.gcd n.mag d.mag:Nat):Rat)≠0:=by
   intro e
   have:d.mag / Nat.gcd n.mag d.mag=0:=by exact_mod_cast e
   omega
  rw [e1,Rat.intCast_mul,Rat.intCast_natCast]
  conv=>rhs; rhs; rw [e2]
  rw [Rat.natCast_mul]
  grind
 by_cases e:d.mag / Nat.gcd n.mag d.mag=1
 ·have e':aP false (d.mag / Nat.gcd n.mag d.mag)=rational_one:=by rw [e]; rfl
  rw [decide_eq_true e',cond_true]
  refine ⟨⟨oe _ _,.inl rfl,?_⟩,?_⟩
  ·show Nat.Coprime (n.mag / Nat.gcd n.mag d.mag) 1; exact Nat.coprime_one_right _
  ·rw [← hval,e]; rfl
 ·have e':¬ aP false (d.mag / Nat.gcd n.mag d.mag)=rational_one:=fun h=>e (by
   have:(aP false (d.mag / Nat.gcd n.mag d.mag)).mag=rational_one.mag:=by rw [h]
   exact this)
  rw [decide_eq_false e',cond_false]
  have ez:¬ (aP false (d.mag / Nat.gcd n.mag d.mag))=z0:=fun h=>by
   have:(aP false (d.mag / Nat.gcd n.mag d.mag)).mag=z0.mag:=by rw [h]
   have:d.mag / Nat.gcd n.mag d.mag=0:=this
   omega
  have eq:oV (⟨aP n.neg (n.mag / Nat.gcd n.mag d.mag),aP false (d.mag / Nat.gcd n.mag d.mag)⟩:GQ)=d.mag / Nat.gcd n.mag d.mag:=if_neg ez
  refine ⟨⟨oe _ _,.inr ⟨rfl,by show 1 < d.mag / Nat.gcd n.mag d.mag; omega⟩,?_⟩,?_⟩
  ·rw [eq]; exact hcop
  ·unfold gO
   rw [eq,← hval]
theorem va {n d:GI} (hn:IOk n) (hd:iS d≠0):QOk (bH n d)∧gO (bH n d)=(iS n:Rat) / (iS d:Rat):=by
 have hm:d.mag≠0:=fun e=>hd (by unfold iS; rw [e]; cases d.neg <;> rfl)
 unfold bH
 rw [rW]
 cases hs:d.neg with
 | false =>
  have e:iS d=(d.mag:Int):=by unfold iS; rw [hs]; rfl
  rw [decide_eq_false (by rw [e]; have:=wV d.mag; omega),cond_false,e,Rat.intCast_natCast]
  exact tg hn hs hm
 | true =>
  have e:iS d=-(d.mag:Int):=by unfold iS; rw [hs]; rfl
  rw [decide_eq_true (by rw [e,Int.sign_eq_neg_one_of_neg og]; decide),cond_true,e]
  have hN:(aA d).neg=false:=by
   unfold aA aP; rw [hs]; rfl
  have hM:(aA d).mag=d.mag:=rfl
  obtain ⟨k1,k2⟩:=tg (tw n) hN (by rw [hM]; exact hm)
  refine ⟨k1,k2.trans ?_⟩
  rw [qT,hM,Rat.intCast_neg,Rat.intCast_neg,Rat.intCast_natCast]
  have d0:(d.mag:Rat)≠0:=by
   intro e
   have:d.mag=0:=by exact_mod_cast e
   omega
  grind
theorem xh {x:GQ} (h:QOk x):(oV x:Rat)≠0:=by
 intro e
 have:oV x=0:=by exact_mod_cast e
 have:=h.pos
 omega
theorem uE {x:GQ} (h:QOk x):(0:Rat) < (oV x:Rat):=by
 have:=h.pos
 exact_mod_cast this
theorem yj {x y:GQ} (hx:QOk x) (hy:QOk y):∃ D:Rat,0 < D∧(iS (aY x y).1:Rat)=gO x*D∧(iS (aY x y).2.1:Rat)=gO y*D∧(iS (aY x y).2.2:Rat)=D∧IOk (aY x y).1∧IOk (aY x y).2.1:=by
 have h1:=uE hx
 have h2:=uE hy
 unfold aY
 by_cases e:x.den=y.den
 ·rw [decide_eq_true e,cond_true]
  have e2:oV x=oV y:=by unfold oV; rw [e]
  refine ⟨oV x,h1,?_,?_,?_,hx.1,hy.1⟩
  ·unfold gO; show (iS x.num:Rat)=_; grind
  ·unfold gO; rw [e2]; show (iS y.num:Rat)=_; grind
  ·show (iS (aa x):Rat)=_
   rw [(np hx).1,Rat.intCast_natCast]
 ·rw [decide_eq_false e,cond_false]
  refine ⟨(oV x:Rat)*(oV y:Rat),Rat.mul_pos h1 h2,?_,?_,?_,yP _ _,yP _ _⟩
  ·show (iS (ab x.num (aa y)):Rat)=_
   rw [oB,Rat.intCast_mul,(np hy).1,Rat.intCast_natCast]
   unfold gO; grind
  ·show (iS (ab y.num (aa x)):Rat)=_
   rw [oB,Rat.intCast_mul,(np hx).1,Rat.intCast_natCast]
   unfold gO; grind
  ·show (iS (ab (aa x) (aa y)):Rat)=_
   rw [oB,Rat.intCast_mul,(np hx).1,(np hy).1,Rat.intCast_natCast,Rat.intCast_natCast]
theorem qS {x y:GQ} (hx:QOk x) (hy:QOk y):QOk (be x y)∧gO (be x y)=gO x+gO y:=by
 obtain ⟨D,h0,h1,h2,h3,_,_⟩:=yj hx hy
 unfold be
 have hd:iS (aY x y).2.2≠0:=fun e=>by
  rw [e] at h3
  have h4:(0:Rat)=D:=h3
  grind
 obtain ⟨k1,k2⟩:=va (Add_ok (aY x y).1 (aY x y).2.1) hd
 refine ⟨k1,?_⟩
 rw [k2,Add_val,Rat.intCast_add,h1,h2,h3]
 grind
theorem sD {x y:GQ} (hx:QOk x) (hy:QOk y):QOk (aD x y)∧gO (aD x y)=gO x*gO y:=by
 unfold aD
 have e1:=(np hx).1
 have e2:=(np hy).1
 have h1:=hx.pos
 have h2:=hy.pos
 have hd:iS (ab (aa x) (aa y))≠0:=by
  rw [oB,e1,e2,← Int.natCast_mul]
  have:=Nat.mul_pos h1 h2
  omega
 obtain ⟨k1,k2⟩:=va (yP x.num y.num) hd
 refine ⟨k1,?_⟩
 rw [k2,oB,oB,e1,e2]
 simp only [Rat.intCast_mul,Rat.intCast_natCast]
 have d1:=xh hx
 have d2:=xh hy
 unfold gO
 grind
theorem neg_ok {x:GQ} (hx:QOk x):QOk (cq x)∧gO (cq x)=- gO x:=by
 refine ⟨⟨tw _,hx.2.1,hx.2.2⟩,?_⟩
 unfold gO cq
 show (iS (aA x.num):Rat) / (oV x:Rat)=_
 rw [qT,Rat.intCast_neg]
 grind
theorem uq {x y:GQ} (hx:QOk x) (hy:QOk y):QOk (aB x y)∧gO (aB x y)=gO x - gO y:=by
 unfold aB
 obtain ⟨k1,k2⟩:=neg_ok hy
 obtain ⟨k3,k4⟩:=qS hx k1
 refine ⟨k3,?_⟩
 rw [k4,k2]; grind
theorem jd (n:Int):QOk (ah n)∧gO (ah n)=(n:Rat):=by
 refine ⟨⟨qU n,.inl rfl,Nat.coprime_one_right _⟩,?_⟩
 unfold gO
 show (iS (ar n):Rat) / ((1:Nat):Rat)=_
 rw [qk]
 grind
theorem zero_ok:QOk ⟨z0,z0⟩∧gO ⟨z0,z0⟩=0:=jd 0
end Go.Sx
namespace Go.Sx
def zQ:GQ:=⟨⟨false,0⟩,⟨false,0⟩⟩
theorem lV:QOk zQ∧gO zQ=0:=zero_ok
def DOk (q:Qd):Prop:=QOk q.c0∧QOk q.c1∧QOk q.c2
def TOk (t:GR):Prop:=QOk t.p∧QOk t.r
def lv (t:GR) (q:Qd):Rat×Rat :=
 if t.r=zQ then (gO q.c0+gO t.p*(gO q.c1+gO t.p*gO q.c2),0)
 else (gO q.c0+gO q.c2*(gO t.r - gO t.p*gO t.p),gO q.c1+(gO q.c2+gO q.c2)*gO t.p)
theorem eval_ok {q:Qd} {t:GQ} (hq:DOk q) (ht:QOk t):QOk (ew q t)∧gO (ew q t)=gO q.c0+gO t*(gO q.c1+gO t*gO q.c2):=by
 obtain ⟨h0,h1,h2⟩:=hq
 unfold ew
 obtain ⟨a1,a2⟩:=sD ht h2
 obtain ⟨b1,b2⟩:=qS h1 a1
 obtain ⟨c1,c2⟩:=sD ht b1
 obtain ⟨d1,d2⟩:=qS h0 c1
 exact ⟨d1,by rw [d2,c2,b2,a2]⟩
theorem slope_ok {q:Qd} {t:GQ} (hq:DOk q) (ht:QOk t):QOk (dD q t)∧gO (dD q t)=gO q.c1+(gO q.c2+gO q.c2)*gO t:=by
 obtain ⟨h0,h1,h2⟩:=hq
 unfold dD
 obtain ⟨a1,a2⟩:=qS h2 h2
 obtain ⟨b1,b2⟩:=sD a1 ht
 obtain ⟨c1,c2⟩:=qS h1 b1
 exact ⟨c1,by rw [c2,b2,a2]⟩
theorem wH {p q:Qd} (hp:DOk p) (hq:DOk q):DOk (d9 p q)∧gO (d9 p q).c0=gO p.c0 - gO q.c0∧gO (d9 p q).c1=gO p.c1 - gO q.c1∧gO (d9 p q).c2=gO p.c2 - gO q.c2:=by
 unfold d9
 obtain ⟨a1,a2⟩:=uq hp.1 hq.1
 obtain ⟨b1,b2⟩:=uq hp.2.1 hq.2.1
 obtain ⟨c1,c2⟩:=uq hp.2.2 hq.2.2
 exact ⟨⟨a1,b1,c1⟩,a2,b2,c2⟩
theorem xM {a b:GQ} (ha:QOk a) (hb:QOk b):DOk (bn a b)∧(bn a b).c0=a∧(bn a b).c1=b∧(bn a b).c2=zQ:=by
 unfold bn
 exact ⟨⟨ha,hb,lV.1⟩,rfl,rfl,rfl⟩
theorem jV {q:Qd} {t:GR} (hq:DOk q) (ht:TOk t):DOk (bY q t)∧gO (bY q t).c0=(lv t q).1∧gO (bY q t).c1=(lv t q).2∧(bY q t).c2=zQ:=by
 unfold bY d8 lv
 by_cases e:t.r=zQ
 ·rw [decide_eq_true (show t.r=⟨⟨false,0⟩,⟨false,0⟩⟩ from e),if_pos e]
  obtain ⟨k1,k2⟩:=eval_ok hq ht.1
  exact ⟨⟨k1,lV.1,lV.1⟩,k2,lV.2,rfl⟩
 ·rw [decide_eq_false (show ¬ t.r=⟨⟨false,0⟩,⟨false,0⟩⟩ from e),if_neg e,Bool.not_false,cond_true,cond_false]
  obtain ⟨a1,a2⟩:=sD ht.1 ht.1
  obtain ⟨b1,b2⟩:=uq ht.2 a1
  obtain ⟨c1,c2⟩:=sD hq.2.2 b1
  obtain ⟨d1,d2⟩:=qS hq.1 c1
  obtain ⟨s1,s2⟩:=slope_ok hq ht.1
  obtain ⟨l1,l2,l3,l4⟩:=xM d1 s1
  exact ⟨l1,by rw [l2,d2,c2,b2,a2],by rw [l3,s2],l4⟩
theorem qd_ext {p q:Qd} (hp:DOk p) (hq:DOk q) (h0:gO p.c0=gO q.c0) (h1:gO p.c1=gO q.c1) (h2:gO p.c2=gO q.c2):p=q:=by
 have e0:=rc hp.1 hq.1 h0
 have e1:=rc hp.2.1 hq.2.1 h1
 have e2:=rc hp.2.2 hq.2.2 h2
 obtain ⟨a,b,c⟩:=p
 obtain ⟨x,y,z⟩:=q
 simp only at e0 e1 e2
 rw [e0,e1,e2]
theorem rl1 (a b c d e f p:Rat):(a - b)+p*((c - d)+p*(e - f))=(a+p*(c+p*e)) - (b+p*(d+p*f)):=by grind
theorem rl2 (a b c d x:Rat):(a - b)+(c - d)*x=(a+c*x) - (b+d*x):=by grind
theorem rl3 (a b c d x:Rat):(a - b)+((c - d)+(c - d))*x=(a+(c+c)*x) - (b+(d+d)*x):=by grind
theorem lv_sub {p q:Qd} {t:GR} (hp:DOk p) (hq:DOk q):lv t (d9 p q)=((lv t p).1 - (lv t q).1,(lv t p).2 - (lv t q).2):=by
 obtain ⟨_,e0,e1,e2⟩:=wH hp hq
 unfold lv
 by_cases e:t.r=zQ
 ·rw [if_pos e,if_pos e,if_pos e,e0,e1,e2,rl1]
  exact Prod.ext rfl (by show (0:Rat)=0 - 0; grind)
 ·rw [if_neg e,if_neg e,if_neg e,e0,e1,e2,rl2,rl3]
theorem kI {p q:Qd} {t:GR} (hp:DOk p) (hq:DOk q) (ht:TOk t):fM p q t=true↔lv t p=lv t q:=by
 unfold fM
 rw [decide_eq_true_eq]
 obtain ⟨k1,_⟩:=wH hp hq
 obtain ⟨r1,r2,r3,r4⟩:=jV k1 ht
 rw [lv_sub hp hq] at r2 r3
 constructor
 ·intro h
  rw [h] at r2 r3
  have z:=lV.2
  unfold zQ at z
  refine Prod.ext ?_ ?_
  ·simp only at r2; grind
  ·simp only at r3; grind
 ·intro h
  refine qd_ext r1 ⟨lV.1,lV.1,lV.1⟩ ?_ ?_ ?_
  ·rw [r2,h]; show _=gO zQ; rw [lV.2]; grind
  ·rw [r3,h]; show _=gO zQ; rw [lV.2]; grind
  ·rw [r4]; rfl
theorem nH {q:Qd} {t:GR} (hq:DOk q) (ht:TOk t):lv t (bY q t)=lv t q:=by
 obtain ⟨r1,r2,r3,r4⟩:=jV hq ht
 have h:∀ x:Qd,gO x.c0=(lv t q).1→gO x.c1=(lv t q).2→x.c2=zQ→lv t x=lv t q:=by
  intro x e0 e1 e2
  have e3:gO x.c2=0:=by rw [e2]; exact lV.2
  have e4:t.r=zQ→(lv t q).2=0:=fun e=>by unfold lv; rw [if_pos e]
  conv=>lhs; unfold lv
  split
  ·rename_i e
   rw [e4 e] at e1
   refine Prod.ext ?_ ?_
   ·simp only; rw [e0,e1,e3]; grind
   ·simp only; rw [e4 e]
  ·refine Prod.ext ?_ ?_
   ·simp only; rw [e0,e3]; grind
   ·simp only; rw [e1,e3]; grind
 exact h _ r2 r3 r4
theorem sj {p q:Qd} {t:GR} (hp:DOk p) (hq:DOk q) (ht:TOk t):bY p t=bY q t↔lv t p=lv t q:=by
 obtain ⟨r1,r2,r3,r4⟩:=jV hp ht
 obtain ⟨s1,s2,s3,s4⟩:=jV hq ht
 constructor
 ·intro h; rw [← nH hp ht,← nH hq ht,h]
 ·intro h; exact qd_ext r1 s1 (by rw [r2,s2,h]) (by rw [r3,s3,h]) (by rw [r4,s4])
end Go.Sx
namespace Go.Sx
theorem sc (l:List (U Qd)):ao l=l6 bu l 0 l.length:=by
 unfold ao cM aX es
 show aZ l 0 l.length=_
 unfold aZ
 rfl
theorem pW (a b:U Qd):bu a b=cU a b:=by
 unfold bu aU cU ci
 rfl
theorem iX {d:List (U Qd)} (hd:∀ u∈d,Tv u.iv):(ao d).Perm d∧(ao d).Pairwise fun a b=>kU a.iv≤kU b.iv:=by
 rw [sc]
 exact vA pW hd
theorem mD (l:List (U Qd)):aj l []=kG (l.map (·.iv)):=by
 unfold aj
 have:=pN (R:=List GR) (f:=fun (o:List GR) (u:U Qd)=>ax (ax o u.iv.lo) u.iv.hi) l (B:=fun s=>di l [] s.1 s.2)
  (fun o i hi=>by
    show di l [] o i=_
    unfold di
    rw [decide_eq_true (by omega:(i:Int) < (l.length:Int))]
    rfl)
  (fun o=>by
    show di l [] o l.length=_
    unfold di
    rw [decide_eq_false (by omega:¬ (l.length:Int) < (l.length:Int))]
    rfl) l [] [] (l.length - 0+1) rfl og
 refine (io this).trans ?_
 unfold i7 kG
 rw [List.foldl_map]
theorem mU (l:List (U Qd)) (ts:List GR):bR l ts=iH (default:Qd) l ts:=by
 unfold bR iH
 have h1:=qh (R:=List (At Qd)) (z:=(default:Qd)) (ts:=ts) (B:=fun s=>bZ l ts s.1 s.2)
  (fun o i hi=>by
    show bZ l ts o i=_
    unfold bZ
    rw [decide_eq_true (by omega:(i:Int) < (ts.length:Int)),decide_eq_true (by omega:((i+1:Nat):Int) < (ts.length:Int))]
    rfl)
  (fun o i hi=>by
    show bZ l ts o i=_
    unfold bZ
    rw [decide_eq_true (by omega:(i:Int) < (ts.length:Int)),decide_eq_false (by omega:¬ ((i+1:Nat):Int) < (ts.length:Int))]
    rfl)
  (fun o=>by
    show bZ l ts o ts.length=_
    unfold bZ
    rw [decide_eq_false (by omega:¬ (ts.length:Int) < (ts.length:Int))]
    rfl) ts [] [] (ts.length - 0+1) rfl og
 refine (io h1).trans ?_
 show gy l ts ([]++gf (default:Qd) ts) ts.length=_
 rw [List.nil_append]
 generalize gf (default:Qd) ts=o0
 unfold gy
 have h2:=uM (R:=List (At Qd)) (g:=kx l) (n:=o0.length) (B:=fun s=>cZ l ts o0 ts.length s.1 s.2)
  (fun o i hi hn=>by
    show cZ l ts o0 ts.length i o=_
    unfold cZ
    rw [decide_eq_true (by omega:(i:Int) < (o.length:Int)),cond_true]
    have h3:=ot (R:=List (At Qd)) (f:=fun o u=>o.set i (lz u (gt o i))) l (I:=fun o=>i < o.length) (B:=fun s=>cY l ts o0 ts.length i o s.1 s.2)
     (fun o x h=>by simpa using h)
     (fun o k ho hk=>by
       show cY l ts o0 ts.length i _ k o=_
       unfold cY lz
       rw [decide_eq_true (by omega:(k:Int) < (l.length:Int)),cond_true]
       cases aT (gt l k).iv (gt o i).frm (gt o i).til (gt o i).gap
       ·rw [cond_false,cond_false,set_gt ho]
       ·rfl)
     (fun o'=>by
       show cY l ts o0 ts.length i _ l.length o'=_
       unfold cY
       rw [decide_eq_false (by omega:¬ (l.length:Int) < (l.length:Int))]
       rfl) l [] o (l.length - 0+1) hi rfl og
    refine (io h3).trans ?_
    show gw l ts o0 ts.length i _ l.length _=_
    unfold gw
    rw [uW i l o hi])
  (fun o hn=>by
    show cZ l ts o0 ts.length o0.length o=_
    unfold cZ
    rw [hn,decide_eq_false (by omega:¬ (o0.length:Int) < (o0.length:Int))]
    rfl) o0 [] (o0.length - 0+1) (by simp) og
 refine (io h2).trans ?_
 rfl
theorem jH (l:List (U Qd)):af l=l.flatMap atU:=by
 unfold af
 have h:=ot (R:=List (U Qd)) (f:=fun o u=>o++atU u) l (I:=fun _=>True) (B:=fun s=>dT l s.1 s.2)
  (fun _ _ h=>h)
  (fun o i _ hi=>by
    show dT l i o=_
    unfold dT atU ptU m0
    rw [decide_eq_true (by omega:(i:Int) < (l.length:Int)),cond_true]
    cases (gt l i).iv.openLo <;> cases aM (gt l i).iv <;> cases (gt l i).iv.openHi <;> simp)
  (fun o=>by
    show dT l l.length o=_
    unfold dT
    rw [decide_eq_false (by omega:¬ (l.length:Int) < (l.length:Int))]
    rfl) l [] [] (l.length - 0+1) trivial rfl og
 refine (io h).trans ?_
 show iJ l l.length _=_
 unfold iJ
 rw [pM,List.nil_append]
theorem ik {l:List (U Qd)} (hl:(ao l).length=l.length) (h:∀ i,0 < i→i < l.length→ef (gt (ao l) (i - 1)).iv (gt (ao l) i).iv=true):bo l=dJ l l.length:=by
 unfold bo
 refine (io (po (n:=l.length) (r:=(([],11):List (U Qd)×Int)) (bad:=fun x=>decide ((x:Int)>0) && !(ef (gt (ao l) (x - 1)).iv (gt (ao l) x).iv)) (fun x hx=>by
  unfold d5
  rw [hl,decide_eq_true (by omega:(x:Int) < (l.length:Int)),cond_true]) (by
  unfold d5
  rw [hl,decide_eq_false (by omega:¬ (l.length:Int) < (l.length:Int))]
  rfl) (l.length - 0+1) 0 (Nat.zero_le _) og fun i _ h2=>?_)).trans rfl
 by_cases e:0 < i
 ·show (decide ((i:Int)>0) && !(ef (gt (ao l) (i - 1)).iv (gt (ao l) i).iv))=false
  rw [h i e h2,Bool.not_true,Bool.and_false]
 ·show (decide ((i:Int)>0) && _)=false
  rw [decide_eq_false (by omega:¬ (i:Int)>0),Bool.false_and]
theorem qq (l:List (U Qd)) (x18:Nat) (out:List (U Qd)) (x:Nat) (hx:x < (af (ao l)).length) :
 da l x18 out x=.go (dA aW aE au (af (ao l)) out x,x+1):=by
 unfold da dA jm ks tp ly eT
 rw [decide_eq_true (by omega:(x:Int) < (((af (ao l)).length:Nat):Int)),cond_true]
 generalize af (ao l)=L
 repeat' (first | refine t8 ?_ ?_ | rfl)
theorem qa (l:List (At Qd)) (out:List (U Qd)) (i:Nat) (hi:i < l.length) :
 cX l out i=.go (eR aW aE au l out i,i+1):=by
 unfold cX eR
 rw [decide_eq_true (by omega:(i:Int) < (l.length:Int)),cond_true]
 cases (gt l i).has <;> cases (gt l i).gap <;> simp only [Bool.not_true,Bool.not_false,cond_true,cond_false]
 ·repeat' (first | refine t8 ?_ ?_ | rfl)
 ·repeat' (first | refine t8 ?_ ?_ | rfl)
theorem il (l:List (U Qd)) (n:Nat):dJ l n=(ey (dA aW aE au (af (ao l))) [] (af (ao l)).length,0):=by
 unfold dJ
 refine (io (pG (o:=([]:List (U Qd))) (st:=dA aW aE au (af (ao l))) (n:=(af (ao l)).length) (B:=fun s=>da l n s.1 s.2)
  (fun o i hi=>qq l n o i hi) (fun o=>by
    show da l n o _=_
    unfold da
    rw [decide_eq_false (by omega:¬ (((af (ao l)).length:Nat):Int) < (((af (ao l)).length:Nat):Int))]
    rfl) _ 0 (Nat.zero_le _) og)).trans ?_
 rfl
theorem km (l:List (At Qd)):dh l=ey (eR aW aE au l) [] l.length:=by
 unfold dh
 refine (io (pG (o:=([]:List (U Qd))) (st:=eR aW aE au l) (n:=l.length) (B:=fun s=>cX l s.1 s.2)
  (fun o i hi=>qa l o i hi) (fun o=>by
    show cX l o _=_
    unfold cX
    rw [decide_eq_false (by omega:¬ (l.length:Int) < (l.length:Int))]
    rfl) _ 0 (Nat.zero_le _) og)).trans ?_
 rfl
theorem qm (he:∀ f,aW f f=true) (l:List (U Qd)):dH l l=true:=by
 unfold dH
 rw [show (((l.length:Int)) != ((l.length:Int)))=false by simp,cond_false]
 refine (io (po (n:=l.length) (r:=false) (bad:=fun i=>((!(decide ((gt l i).iv=(gt l i).iv))) || (!(aW ((gt l i).f) ((gt l i).f))))) (fun i hi=>by
  unfold eD
  rw [decide_eq_true (by omega:(i:Int) < (l.length:Int)),cond_true]) (by
  unfold eD
  rw [decide_eq_false (by omega:¬ (l.length:Int) < (l.length:Int))]
  rfl) (l.length - 0+1) 0 (Nat.zero_le _) og fun i _ _=>?_)).trans rfl
 rw [he,decide_eq_true rfl]
 rfl
theorem m7 (heq:∀ a b,aW a b=true→a=b) {d u:List (U Qd)} (hp:d.Perm u) (hW:∀ x∈u,Wv x.iv) (hD:u.Pairwise fun a b=>Dj a.iv b.iv):bo d=(bp u,0):=by
 have hWd:∀ x∈d,Wv x.iv:=fun x hx=>hW x (hp.mem_iff.1 hx)
 obtain ⟨s1,s2⟩:=iX (fun x hx=>(hWd x hx).1)
 have hps:=s1.trans hp
 have hE:=(mT (l:=u.map (·.iv)) (fun i hi=>by obtain ⟨x,hx,rfl⟩:=List.mem_map.1 hi; exact (hW x hx).1)).1
 rw [ik s1.length_eq fun i h0 h1=>(nS hW hps s2).2 hD i h0 (by rw [s1.length_eq]; exact h1),il]
 have e1:af (ao d)=kA (iH (default:Qd) u (kG (u.map (·.iv)))):=by
  rw [jH]; exact atoms_eq hW hD hps s2
 unfold bp
 rw [e1,km,mD,mU,loops_eq heq (pj hE)]
end Go.Sx
namespace Go.Sx
theorem knw:iE=true:=by decide +kernel
end Go.Sx
