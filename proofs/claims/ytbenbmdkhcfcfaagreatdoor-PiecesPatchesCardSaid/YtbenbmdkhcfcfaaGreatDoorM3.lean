import Derived.Test.YtbenbmdkhcfcfaaGreatDoorM1
import Derived.Test.YtbenbmdkhcfcfaaGreatDoorGarith
import Derived.Test.YtbenbmdkhcfcfaaGreatDoorQ2
import Derived.Test.YtbenbmdkhcfcfaaGreatDoorQ3
import Derived.Test.YtbenbmdkhcfcfaaGreatDoorQ4
set_option linter.unusedVariables false
set_option linter.unusedSimpArgs false
namespace Go.Sx
def nxP {S R:Type} (I:S→Prop) (Q:R→Prop):Nx S R→Prop
 | .go s=>I s
 | .out s=>I s
 | .ret r=>Q r
def smP {S R:Type} (I:S→Prop) (Q:R→Prop):S ⊕ R→Prop
 | .inl s=>I s
 | .inr r=>Q r
theorem pi {S R:Type} {B:S→Nx S R} {I:S→Prop} {Q:R→Prop} (h:∀ s,I s→nxP I Q (B s)):∀ (n:Nat) (s:S),I s→smP I Q (bt B n s)
 | 0,s,hs=>hs
 | n+1,s,hs=>by
  have h1:=h s hs
  unfold bt
  revert h1
  cases B s with
  | go s'=>exact fun h1=>pi h n s' h1
  | out s'=>exact fun h1=>h1
  | ret r=>exact fun h1=>h1
def Fs (f:Qd):Prop:=f=default∨(∃ s,f=aj s)∨∃ c:Int,f=az (ah (Int.tmod c 4))
def pUn (t:GR) (f:Qd):U Qd:=⟨⟨t,t,false,false⟩,f⟩
def bPt (s:Stp) (before:Qd) (t:GR):List (U Qd) :=
 bif ((((s.point % 4):Nat):Int) == ((1:Nat):Int)) then [pUn t (aj s)]
 else bif ((((s.point % 4):Nat):Int) == ((2:Nat):Int)) then [pUn t before]
 else bif ((((s.point % 4):Nat):Int) == ((3:Nat):Int)) then [pUn t (az (ah (Int.tmod s.c0 4)))]
 else []
def bPs (s:Stp) (before:Qd) (t:GR) (taken:Bool):List (U Qd) :=
 bif taken then [] else bif ((((s.piece % 4):Nat):Int) == ((2:Nat):Int)) then [] else bPt s before t
def bGp (s:Stp) (t t':GR) (taken:Bool):List (U Qd) :=
 bif ((((s.piece % 4):Nat):Int) != ((0:Nat):Int)) then [⟨⟨t,t',!(((((s.piece % 4):Nat):Int) == ((2:Nat):Int)) && !taken),!((((s.piece % 4):Nat):Int) == ((3:Nat):Int))⟩,aj s⟩] else []
theorem oH (l:List Stp) (out:List (U Qd)) (a:Nat) (root taken:Bool) (i:Nat) (before:Qd) :
 cH l out a root taken i before =
  bif ((decide ((i:Int) < (l.length:Int))) && (decide ((i:Int) < 8))) then
   .go (out++(bPs (gt l i) before (ae (a:Int) root) taken++bGp (gt l i) (ae (a:Int) root) (ae (((a+3)+((gt l i).length % 3):Nat):Int) ((gt l i).root)) taken),
    ((a+3)+((gt l i).length % 3)),(gt l i).root,((((gt l i).piece % 4:Nat):Int) == ((3:Nat):Int)),(i+1),aj (gt l i))
  else .out (out,a,root,taken,i,before):=by
 unfold cH
 congr 1
 generalize gt l i=s
 unfold bPs bGp bPt pUn
 cases e2:((((s.piece % 4):Nat):Int) == ((2:Nat):Int)) <;> cases taken <;>
  simp only [Bool.not_true,Bool.not_false,Bool.and_true,Bool.and_false,cond_true,cond_false,Bool.false_eq_true] <;>
  cases ((((s.piece % 4):Nat):Int) != ((0:Nat):Int)) <;> simp only [cond_true,cond_false,List.append_nil,List.nil_append] <;>
  cases ((((s.point % 4):Nat):Int) == ((1:Nat):Int)) <;> simp only [cond_true,cond_false,List.append_nil,List.nil_append,List.append_assoc] <;>
  cases ((((s.point % 4):Nat):Int) == ((2:Nat):Int)) <;> simp only [cond_true,cond_false,List.append_nil,List.nil_append,List.append_assoc] <;>
  cases ((((s.point % 4):Nat):Int) == ((3:Nat):Int)) <;> simp only [cond_true,cond_false,List.append_nil,List.nil_append,List.append_assoc]
theorem bUs_ok {taken p0 p2 p3:Bool} {t t':GR} {f:Qd} {P:List (U Qd)} (ht:Tm t) (ht':Tm t') (hlt:tk t < tk t') (hf:Fs f)
 (hP:P=[]∨(taken=false∧p2=false∧∃ g,Fs g∧P=[pUn t g])) :
 (∀ x∈P++(bif p0 then [(⟨⟨t,t',!(p2 && !taken),!p3⟩,f⟩:U Qd)] else []),Wv x.iv∧Fs x.f∧ec x.iv < 2*tk t'+(bif p3 then 1 else 0)∧(2*tk t+(bif taken then 1 else 0):Int)≤dL x.iv) ∧
 (P++(bif p0 then [(⟨⟨t,t',!(p2 && !taken),!p3⟩,f⟩:U Qd)] else [])).Pairwise fun a b=>Dj a.iv b.iv:=by
 have hg:∀ x∈(bif p0 then [(⟨⟨t,t',!(p2 && !taken),!p3⟩,f⟩:U Qd)] else []),x=⟨⟨t,t',!(p2 && !taken),!p3⟩,f⟩:=by
  cases p0
  ·intro x hx; cases hx
  ·intro x hx; exact List.mem_singleton.1 hx
 have gok:Wv (⟨t,t',!(p2 && !taken),!p3⟩:Iv):=⟨⟨ht,ht'⟩,Nat.le_of_lt hlt,fun e=>by have e:tk t=tk t':=e; omega⟩
 have g1:ec (⟨t,t',!(p2 && !taken),!p3⟩:Iv) < 2*tk t'+(bif p3 then 1 else 0):=by
  unfold ec; cases p3 <;> simp <;> omega
 have g2:(2*tk t+(bif taken then 1 else 0):Int)≤dL (⟨t,t',!(p2 && !taken),!p3⟩:Iv):=by
  unfold dL; cases p2 <;> cases taken <;> simp <;> omega
 rcases hP with rfl | ⟨h1,h2,g,hgf,rfl⟩
 ·rw [List.nil_append]
  refine ⟨fun x hx=>by rw [hg x hx]; exact ⟨gok,hf,g1,g2⟩,?_⟩
  cases p0
  ·exact List.Pairwise.nil
  ·exact List.pairwise_singleton _ _
 ·subst h1 h2
  have hpw:Wv (pUn t g).iv:=⟨⟨ht,ht⟩,Nat.le_refl _,fun _=>⟨rfl,rfl⟩⟩
  have pl:ec (pUn t g).iv=2*tk t:=by unfold ec pUn; simp
  have pf:dL (pUn t g).iv=2*tk t:=by unfold dL pUn; simp
  refine ⟨fun x hx=>?_,?_⟩
  ·rcases List.mem_append.1 hx with hx | hx
   ·rw [List.mem_singleton.1 hx]
    refine ⟨hpw,hgf,?_,?_⟩
    ·rw [pl]; cases p3 <;> simp <;> omega
    ·rw [pf]; simp <;> omega
   ·rw [hg x hx]; exact ⟨gok,hf,g1,g2⟩
  ·rw [List.singleton_append,List.pairwise_cons]
   refine ⟨fun y hy=>?_,?_⟩
   ·rw [hg y hy]
    refine .inl ?_
    rw [pl]
    unfold dL; simp <;> omega
   ·cases p0
    ·exact List.Pairwise.nil
    ·exact List.pairwise_singleton _ _
def BI (s:(List (U Qd))×Nat×Bool×Bool×Nat×Qd):Prop :=
 s.2.1≤5*s.2.2.2.2.1∧s.2.2.2.2.1≤8∧Fs s.2.2.2.2.2∧(∀ x∈s.1,Wv x.iv∧Fs x.f∧ec x.iv < ((2*(10*s.2.1+10+(bif s.2.2.1 then 14 else 0))+(bif s.2.2.2.1 then 1 else 0):Nat):Int))∧s.1.Pairwise fun a b=>Dj a.iv b.iv
theorem yS (l:List Stp) (s:(List (U Qd))×Nat×Bool×Bool×Nat×Qd) (h:BI s) :
 nxP BI (fun _=>False) (cH l s.1 s.2.1 s.2.2.1 s.2.2.2.1 s.2.2.2.2.1 s.2.2.2.2.2):=by
 obtain ⟨out,a,root,taken,i,before⟩:=s
 obtain ⟨h1,h2,h3,h4,h5⟩:=h
 simp only at h1 h2 h3 h4 h5
 rw [oH]
 cases hc:((decide ((i:Int) < (l.length:Int))) && (decide ((i:Int) < 8))) with
 | false=>exact ⟨h1,h2,h3,h4,h5⟩
 | true =>
  rw [cond_true]
  rw [Bool.and_eq_true,decide_eq_true_eq,decide_eq_true_eq] at hc
  have hi:i < 8:=by omega
  have hm:(gt l i).length % 3 < 3:=Nat.mod_lt _ DC
  have e1:=tk_at a root og
  have e2:=tk_at ((a+3)+((gt l i).length % 3)) (gt l i).root og
  have hlt:tk (ae (a:Int) root) < tk (ae (((a+3)+((gt l i).length % 3):Nat):Int) ((gt l i).root)):=by
   rw [e1,e2]; cases root <;> cases (gt l i).root <;> simp <;> omega
  have hF:Fs (aj (gt l i)):=.inr (.inl ⟨_,rfl⟩)
  have hP:bPs (gt l i) before (ae (a:Int) root) taken=[]∨(taken=false∧((((gt l i).piece % 4:Nat):Int) == ((2:Nat):Int))=false∧∃ g,Fs g∧bPs (gt l i) before (ae (a:Int) root) taken=[pUn (ae (a:Int) root) g]):=by
   unfold bPs bPt
   cases taken
   ·rw [cond_false]
    cases ((((gt l i).piece % 4:Nat):Int) == ((2:Nat):Int))
    ·rw [cond_false]
     cases ((((gt l i).point % 4:Nat):Int) == ((1:Nat):Int))
     ·rw [cond_false]
      cases ((((gt l i).point % 4:Nat):Int) == ((2:Nat):Int))
      ·rw [cond_false]
       cases ((((gt l i).point % 4:Nat):Int) == ((3:Nat):Int))
       ·exact .inl rfl
       ·exact .inr ⟨rfl,rfl,_,.inr (.inr ⟨_,rfl⟩),rfl⟩
      ·exact .inr ⟨rfl,rfl,_,h3,rfl⟩
     ·exact .inr ⟨rfl,rfl,_,hF,rfl⟩
    ·exact .inl rfl
   ·exact .inl rfl
  obtain ⟨k1,k2⟩:=bUs_ok (p0:=((((gt l i).piece % 4:Nat):Int) != ((0:Nat):Int))) (p3:=((((gt l i).piece % 4:Nat):Int) == ((3:Nat):Int))) (tm_at a root og) (tm_at ((a+3)+((gt l i).length % 3)) (gt l i).root og) hlt hF hP
  refine ⟨?_,?_,hF,fun x hx=>?_,?_⟩
  ·show (a+3)+((gt l i).length % 3)≤5*(i+1); omega
  ·show i+1≤8; omega
  ·show Wv x.iv∧Fs x.f∧ec x.iv < ((2*(10*((a+3)+((gt l i).length % 3))+10+(bif (gt l i).root then 14 else 0))+(bif ((((gt l i).piece % 4:Nat):Int) == ((3:Nat):Int)) then 1 else 0):Nat):Int)
   rw [e1,e2] at hlt
   rcases List.mem_append.1 hx with hx | hx
   ·obtain ⟨a1,a2,a3⟩:=h4 x hx
    refine ⟨a1,a2,?_⟩
    clear h4 k1 k2 hP e1 e2 h5
    generalize ((((gt l i).piece % 4:Nat):Int) == ((3:Nat):Int))=p3 at *
    generalize (gt l i).root=rt at *
    cases root <;> cases taken <;> cases rt <;> cases p3 <;> simp only [cond_true,cond_false] at*<;> omega
   ·obtain ⟨a1,a2,a3,_⟩:=k1 x hx
    rw [e2] at a3
    refine ⟨a1,a2,?_⟩
    clear h4 k1 k2 hP e1 e2 h5
    generalize ((((gt l i).piece % 4:Nat):Int) == ((3:Nat):Int))=p3 at *
    generalize (gt l i).root=rt at *
    cases rt <;> cases p3 <;> simp only [cond_true,cond_false] at*<;> omega
  ·show (out++_).Pairwise _
   rw [List.pairwise_append]
   refine ⟨h5,k2,fun x hx y hy=>.inl ?_⟩
   obtain ⟨_,_,a3⟩:=h4 x hx
   obtain ⟨_,_,_,a4⟩:=k1 y hy
   rw [e1] at a4
   clear h4 k1 k2 hP e1 e2 h5 hlt
   cases root <;> cases taken <;> simp only [cond_true,cond_false] at*<;> omega
theorem kP (l:List Stp):(∀ x∈aM l,Wv x.iv∧Fs x.f)∧(aM l).Pairwise fun a b=>Dj a.iv b.iv:=by
 have h:=pi (R:=List (U Qd)) (Q:=fun _=>False) (B:=fun s=>cH l s.1 s.2.1 s.2.2.1 s.2.2.2.1 s.2.2.2.2.1 s.2.2.2.2.2) (I:=BI) (yS l) ((8 - 0)+1) ([],0,false,false,0,default)
  ⟨by decide,by decide,.inl rfl,fun x hx=>(by cases hx),List.Pairwise.nil⟩
 have e:∃ s,BI s∧aM l=s.1:=by
  unfold aM
  revert h
  generalize bt _ _ _=X
  intro h
  match X,h with
  | .inl s,h=>exact ⟨s,h,rfl⟩
 obtain ⟨s,hs,e⟩:=e
 rw [e]
 exact ⟨fun x hx=>⟨(hs.2.2.2.1 x hx).1,(hs.2.2.2.1 x hx).2.1⟩,hs.2.2.2.2⟩
end Go.Sx
namespace Go.Sx
theorem foldl_cons {α β:Type} (g:α→β):∀ (l:List α) (o:List β),l.foldl (fun o i=>g i::o) o=(l.map g).reverse++o
 | [],o=>rfl
 | x::l,o=>by rw [List.foldl_cons,foldl_cons g l]; simp
theorem lN {α:Type} [Inhabited α] {z:α} {u:List (U α)} {E:List GR} {i:Nat} (h:i < (iJ z u E).length):gt (iJ z u E) i=kz u (gt (f7 z E) i):=by
 have h2:i < (f7 z E).length:=by simpa [iJ] using h
 have:gt ((f7 z E).map (kz u)) i=kz u (gt (f7 z E) i):=by
  rw [fL (by simpa using h2),fL h2,List.getElem_map]
 exact this
theorem pu {α:Type} [Inhabited α] {z:α} {u:List (U α)} {E:List GR} (hE:Ts E):Turns tk (iJ z u E):=by
 have hl:(iJ z u E).length=(f7 z E).length:=by unfold iJ; rw [List.length_map]
 have ok:∀ {i},i < (iJ z u E).length→_:=fun {i} hi=>rX (z:=z) hE (a:=gt (f7 z E) i) (by rw [fL (hl ▸ hi)]; exact List.getElem_mem _)
 refine ⟨fun i hi=>?_,fun i hi=>?_,fun i hi hg=>?_,fun i hi hg=>?_⟩
 ·rw [lN hi,(gD u _).2.1]; exact (rY i (hl ▸ hi)).1
 ·rw [lN hi,lN (by omega:i < (iJ z u E).length),(gD u _).1,(gD u _).2.2]
  exact (rY i og).2 (hl ▸ hi)
 ·rw [lN hi] at hg ⊢
  rw [(gD u _).2.1] at hg
  rw [(gD u _).1,(gD u _).2.2]
  exact (ok hi).2.2.1 hg
 ·rw [lN hi] at hg ⊢
  rw [(gD u _).2.1] at hg
  rw [(gD u _).1,(gD u _).2.2]
  exact (ok hi).2.2.2 hg
end Go.Sx
namespace Go.Sx
def iV (a:GI):Int:=bif a.neg then -(a.mag:Int) else (a.mag:Int)
def IOk (a:GI):Prop:=a.mag=0→a.neg=false
theorem oq (s:Bool) (m:Nat):IOk (aQ s m):=by
 intro h
 have h:m=0:=h
 subst h
 cases s <;> rfl
theorem jp (s:Bool) (m:Nat):iV (aQ s m)=bif s then -(m:Int) else (m:Int):=by
 unfold iV aQ
 by_cases h:m=0
 ·subst h; cases s <;> rfl
 ·cases s <;> simp [h]
theorem ival_inj {a b:GI} (ha:IOk a) (hb:IOk b) (h:iV a=iV b):a=b:=by
 obtain ⟨s,m⟩:=a
 obtain ⟨r,n⟩:=b
 unfold iV at h
 unfold IOk at ha hb
 simp only at ha hb h
 cases s <;> cases r <;> simp only [cond_true,cond_false] at h
 ·have:m=n:=by omega
  rw [this]
 ·have h1:m=0:=by omega
  have h2:n=0:=by omega
  exact absurd (hb h2) DC
 ·have h1:m=0:=by omega
  exact absurd (ha h1) DC
 ·have:m=n:=by omega
  rw [this]
theorem qX (n:Int):IOk (aq n):=by
 unfold IOk aq
 intro h
 have h:n.natAbs=0:=h
 exact decide_eq_false og
theorem qn (n:Int):iV (aq n)=n:=by
 unfold iV aq
 by_cases h:n < 0
 ·simp only [decide_eq_true h,cond_true]; omega
 ·simp only [decide_eq_false h,cond_false]; omega
theorem xe (m:Nat):0≤(m:Int).sign:=by
 cases m with
 | zero=>decide
 | succ m=>exact Int.le_of_lt (by rw [Int.sign_eq_one_of_pos og]; decide)
theorem r0 (a:GI):dp a=(iV a).sign:=by
 obtain ⟨s,m⟩:=a
 unfold dp iV
 by_cases h:m=0
 ·subst h; cases s <;> rfl
 ·rw [decide_eq_false h]
  cases s
  ·exact (Int.sign_eq_one_of_pos (by show (0:Int) < (m:Int); omega)).symm
  ·exact (Int.sign_eq_neg_one_of_neg (by show -(m:Int) < 0; omega)).symm
theorem qW (a:GI):iV (ax a)=- iV a:=by
 unfold ax
 rw [jp]
 unfold iV
 cases a.neg <;> simp
theorem yE (a b:Nat):bq a b=if a < b then -1 else if b < a then 1 else 0:=by
 unfold bq
 rcases Nat.lt_trichotomy a b with h | h | h
 ·rw [show Nat.blt a b=true by rw [Nat.blt_eq]; exact h,cond_true,if_pos h]
 ·subst h
  have h1:Nat.blt a a=false:=by
   cases e:Nat.blt a a with
   | false=>rfl
   | true=>rw [Nat.blt_eq] at e; omega
  rw [h1,Nat.beq_refl,if_neg (Nat.lt_irrefl _),if_neg (Nat.lt_irrefl _)]; rfl
 ·have h1:Nat.blt a b=false:=by
   cases e:Nat.blt a b with
   | false=>rfl
   | true=>rw [Nat.blt_eq] at e; omega
  have h2:Nat.beq a b=false:=by
   cases e:Nat.beq a b with
   | false=>rfl
   | true=>have:=Nat.eq_of_beq_eq_true e; omega
  rw [h1,h2,if_neg og,if_pos h]; rfl
theorem Add_val (a b:GI):iV (aH a b)=iV a+iV b:=by
 obtain ⟨s,m⟩:=a
 obtain ⟨r,n⟩:=b
 unfold aH da dr
 simp only [yE]
 cases s <;> cases r
 ·show iV (aQ false (m+n))=(m:Int)+n
  rw [jp]; simp
 ·show iV (bif decide (_≥(0:Int)) then aQ false (m - n) else aQ true (n - m))=(m:Int)+-n
  split <;> rename_i h1
  ·simp only [show decide ((-1:Int)≥0)=false from rfl,cond_false,jp,cond_true]; omega
  ·split
   ·simp only [show decide ((1:Int)≥0)=true from rfl,cond_true,jp,cond_false]; omega
   ·simp only [show decide ((0:Int)≥0)=true from rfl,cond_true,jp,cond_false]; omega
 ·show iV (bif decide (_≥(0:Int)) then aQ true (m - n) else aQ false (n - m))=-(m:Int)+n
  split <;> rename_i h1
  ·simp only [show decide ((-1:Int)≥0)=false from rfl,cond_false,jp,cond_true]; omega
  ·split
   ·simp only [show decide ((1:Int)≥0)=true from rfl,cond_true,jp,cond_false]; omega
   ·simp only [show decide ((0:Int)≥0)=true from rfl,cond_true,jp,cond_false]; omega
 ·show iV (aQ true (m+n))=-(m:Int)+-n
  rw [jp,cond_true]; omega
theorem Add_ok (a b:GI):IOk (aH a b):=by
 unfold aH
 cases (a.neg == b.neg)
 ·rw [cond_false]
  cases (decide ((bq a.mag b.mag)≥0)) <;> exact oq _ _
 ·exact oq _ _
theorem y6 (a b:GI):IOk (ab a b):=oq _ _
theorem tH (a:GI):IOk (ax a):=oq _ _
theorem oI (a b:GI):iV (ab a b)=iV a*iV b:=by
 obtain ⟨s,m⟩:=a
 obtain ⟨r,n⟩:=b
 unfold ab fP
 rw [jp]
 unfold iV
 cases s <;> cases r <;> simp [Int.neg_mul,Int.mul_neg]
def icmp (a b:Int):Int:=if a < b then -1 else if b < a then 1 else 0
theorem wn (a b:Int):c8 a b=icmp a b:=by
 unfold c8 icmp hQ
 rcases Int.lt_trichotomy a b with h | h | h
 ·simp [h]
 ·subst h; simp
 ·simp [h,show ¬ a < b by omega]
theorem ut {a b:GI} (ha:IOk a) (hb:IOk b):dN a b=icmp (iV a) (iV b):=by
 obtain ⟨s,m⟩:=a
 obtain ⟨r,n⟩:=b
 unfold dN
 rw [wn,r0,r0,yE]
 unfold iV icmp
 unfold IOk at ha hb
 simp only at ha hb
 cases s <;> cases r
 ·simp only [bne_self_eq_false,cond_false]
  rcases Nat.lt_trichotomy m n with h | h | h
  ·rw [if_pos h,if_pos og]
  ·subst h; simp
  ·rw [if_neg og,if_pos h,if_neg og,if_pos og]
 ·have:n≠0:=fun e=>absurd (hb e) DC
  have e1:(-(n:Int)).sign=-1:=Int.sign_eq_neg_one_of_neg og
  have e2:0≤(m:Int).sign:=xe m
  show (if (m:Int).sign < (-(n:Int)).sign then (-1:Int) else if (-(n:Int)).sign < (m:Int).sign then 1 else 0)=if (m:Int) < -(n:Int) then -1 else if -(n:Int) < (m:Int) then 1 else 0
  simp only [e1,if_neg (show ¬ (m:Int).sign < -1 by omega),if_pos (show (-1:Int) < (m:Int).sign by omega),if_neg (show ¬ (m:Int) < -(n:Int) by omega),if_pos (show -(n:Int) < (m:Int) by omega)]
 ·have:m≠0:=fun e=>absurd (ha e) DC
  have e1:(-(m:Int)).sign=-1:=Int.sign_eq_neg_one_of_neg og
  have e2:0≤(n:Int).sign:=xe n
  show (if (-(m:Int)).sign < (n:Int).sign then (-1:Int) else if (n:Int).sign < (-(m:Int)).sign then 1 else 0)=if -(m:Int) < (n:Int) then -1 else if (n:Int) < -(m:Int) then 1 else 0
  simp only [e1,if_pos (show (-1:Int) < (n:Int).sign by omega),if_pos (show -(m:Int) < (n:Int) by omega)]
 ·simp only [bne_self_eq_false,cond_false,cond_true]
  rcases Nat.lt_trichotomy m n with h | h | h
  ·rw [if_pos h,if_neg og,if_pos og]; rfl
  ·subst h; simp
  ·rw [if_neg og,if_pos h,if_pos og]
theorem kv (a:GI):(iV a).natAbs=a.mag:=by unfold iV; cases a.neg <;> simp
theorem uN {a b:GI} (hb:b.neg=false) (h0:b.mag≠0) (hd:b.mag ∣ a.mag):aP a b=aQ a.neg (a.mag / b.mag):=by
 unfold aP aR br
 rw [decide_eq_false h0,cond_false,Nat.mod_eq_zero_of_dvd hd,hb]
 simp
def z0:GI:=⟨false,0⟩
def o7 (x:GQ):Nat:=if x.den=z0 then 1 else x.den.mag
def QOk (x:GQ):Prop:=IOk x.num∧(x.den=z0∨(x.den.neg=false∧1 < x.den.mag))∧Nat.Coprime x.num.mag (o7 x)
def gM (x:GQ):Rat:=(iV x.num:Rat) / (o7 x:Rat)
theorem QOk.pos {x:GQ} (h:QOk x):0 < o7 x:=by
 unfold o7
 split
 ·decide
 ·rename_i e
  rcases h.2.1 with h1 | ⟨_,h1⟩
  ·exact absurd h1 e
  ·omega
theorem oa {x:GQ} (h:QOk x):gM x=⟨iV x.num,o7 x,Nat.ne_of_gt h.pos,by rw [kv]; exact h.2.2⟩:=by
 rw [Rat.mk_eq_mkRat,Rat.mkRat_eq_div]; rfl
theorem ri {x y:GQ} (hx:QOk x) (hy:QOk y) (h:gM x=gM y):x=y:=by
 rw [oa hx,oa hy] at h
 injection h with h1 h2
 obtain ⟨n,d⟩:=x
 obtain ⟨m,e⟩:=y
 have e1:n=m:=ival_inj hx.1 hy.1 h1
 have e2:d=e:=by
  unfold o7 at h2
  have hx2:=hx.2.1
  have hy2:=hy.2.1
  simp only at h2 hx2 hy2
  by_cases c1:d=z0
  ·by_cases c2:e=z0
   ·rw [c1,c2]
   ·rw [if_pos c1,if_neg c2] at h2
    rcases hy2 with h3 | ⟨_,h3⟩
    ·exact absurd h3 c2
    ·omega
  ·by_cases c2:e=z0
   ·rw [if_neg c1,if_pos c2] at h2
    rcases hx2 with h3 | ⟨_,h3⟩
    ·exact absurd h3 c1
    ·omega
   ·rw [if_neg c1,if_neg c2] at h2
    obtain ⟨a1,a2⟩:=hx2.resolve_left c1
    obtain ⟨b1,b2⟩:=hy2.resolve_left c2
    obtain ⟨s,p⟩:=d
    obtain ⟨r,q⟩:=e
    simp only at a1 b1 h2
    rw [a1,b1,h2]
 rw [e1,e2]
theorem xD:iV rational_one=1:=qn 1
theorem nu {x:GQ} (h:QOk x):iV (aa x)=o7 x∧(aa x).neg=false:=by
 unfold aa o7
 by_cases e:x.den=z0
 ·rw [decide_eq_true (show x.den=⟨false,0⟩ from e),if_pos e]
  exact ⟨xD,rfl⟩
 ·rw [decide_eq_false (show ¬ x.den=⟨false,0⟩ from e),if_neg e,cond_false]
  obtain ⟨h1,h2⟩:=h.2.1.resolve_left e
  refine ⟨?_,h1⟩
  unfold iV
  rw [h1]; rfl
theorem tq {n d:GI} (hn:IOk n) (hdn:d.neg=false) (hd:d.mag≠0) :
 QOk (bif (decide ((aP d (a8 n d))=rational_one)) then (⟨(aP n (a8 n d)),(⟨false,0⟩:GI)⟩:GQ) else (⟨(aP n (a8 n d)),(aP d (a8 n d))⟩:GQ)) ∧
 gM (bif (decide ((aP d (a8 n d))=rational_one)) then (⟨(aP n (a8 n d)),(⟨false,0⟩:GI)⟩:GQ) else (⟨(aP n (a8 n d)),(aP d (a8 n d))⟩:GQ))=(iV n:Rat) / (d.mag:Rat):=by
 have hg:0 < Nat.gcd n.mag d.mag:=Nat.gcd_pos_of_pos_right _ og
 have q1:aP d (a8 n d)=aQ false (d.mag / Nat.gcd n.mag d.mag):=by
  have:=uN (a:=d) (b:=a8 n d) rfl (by show Nat.gcd n.mag d.mag≠0; omega) (Nat.gcd_dvd_right _ _)
  rw [hdn] at this
  exact this
 have q2:aP n (a8 n d)=aQ n.neg (n.mag / Nat.gcd n.mag d.mag) :=
  uN (a:=n) (b:=a8 n d) rfl (by show Nat.gcd n.mag d.mag≠0; omega) (Nat.gcd_dvd_left _ _)
 rw [q1,q2]
 have hdp:0 < d.mag / Nat.gcd n.mag d.mag:=Nat.div_pos (Nat.le_of_dvd og (Nat.gcd_dvd_right _ _)) hg
 have hcop:Nat.Coprime (n.mag / Nat.gcd n.mag d.mag) (d.mag / Nat.gcd n.mag d.mag):=Nat.coprime_div_gcd_div_gcd hg
 have hval:(iV (aQ n.neg (n.mag / Nat.gcd n.mag d.mag)):Rat) / ((d.mag / Nat.gcd n.mag d.mag:Nat):Rat)=(iV n:Rat) / (d.mag:Rat):=by
  have e1:iV n=iV (aQ n.neg (n.mag / Nat.gcd n.mag d.mag))*(Nat.gcd n.mag d.mag:Int):=by
   rw [jp]
   have:=Nat.div_mul_cancel (Nat.gcd_dvd_left n.mag d.mag)
   unfold iV
   cases n.neg
   ·simp only [cond_false]; rw [← Int.natCast_mul,this]
   ·simp only [cond_true]; rw [Int.neg_mul,← Int.natCast_mul,this]
  have e2:d.mag=(d.mag / Nat.gcd n.mag d.mag)*Nat.gcd n.mag d.mag:=(Nat.div_mul_cancel (Nat.gcd_dvd_right n.mag d.mag)).symm
  have g0:((Nat.gcd n.mag d.mag:Nat):Rat)≠0:=by
   intro e
   have:Nat.gcd n.mag d.mag=0:=by exact_mod_cast e
   omega
  have d0:((d.mag / Nat.gcd n.mag d.mag:Nat):Rat)≠0:=by
   intro e
   have:d.mag / Nat.gcd n.mag d.mag=0:=by exact_mod_cast e
   omega
  rw [e1,Rat.intCast_mul,Rat.intCast_natCast]
  conv=>rhs; rhs; rw [e2]
  rw [Rat.natCast_mul]
  grind
 by_cases e:d.mag / Nat.gcd n.mag d.mag=1
 ·have e':aQ false (d.mag / Nat.gcd n.mag d.mag)=rational_one:=by rw [e]; rfl
  rw [decide_eq_true e',cond_true]
  refine ⟨⟨oq _ _,.inl rfl,?_⟩,?_⟩
  ·show Nat.Coprime (n.mag / Nat.gcd n.mag d.mag) 1; exact Nat.coprime_one_right _
  ·rw [← hval,e]; rfl
 ·have e':¬ aQ false (d.mag / Nat.gcd n.mag d.mag)=rational_one:=fun h=>e (by
   have:(aQ false (d.mag / Nat.gcd n.mag d.mag)).mag=rational_one.mag:=by rw [h]
   exact this)
  rw [decide_eq_false e',cond_false]
  have ez:¬ (aQ false (d.mag / Nat.gcd n.mag d.mag))=z0:=fun h=>by
   have:(aQ false (d.mag / Nat.gcd n.mag d.mag)).mag=z0.mag:=by rw [h]
   have:d.mag / Nat.gcd n.mag d.mag=0:=this
   omega
  have eq:o7 (⟨aQ n.neg (n.mag / Nat.gcd n.mag d.mag),aQ false (d.mag / Nat.gcd n.mag d.mag)⟩:GQ)=d.mag / Nat.gcd n.mag d.mag:=if_neg ez
  refine ⟨⟨oq _ _,.inr ⟨rfl,by show 1 < d.mag / Nat.gcd n.mag d.mag; omega⟩,?_⟩,?_⟩
  ·rw [eq]; exact hcop
  ·unfold gM
   rw [eq,← hval]
theorem vn {n d:GI} (hn:IOk n) (hd:iV d≠0):QOk (bH n d)∧gM (bH n d)=(iV n:Rat) / (iV d:Rat):=by
 have hm:d.mag≠0:=fun e=>hd (by unfold iV; rw [e]; cases d.neg <;> rfl)
 unfold bH
 rw [r0]
 cases hs:d.neg with
 | false =>
  have e:iV d=(d.mag:Int):=by unfold iV; rw [hs]; rfl
  rw [decide_eq_false (by rw [e]; have:=xe d.mag; omega),cond_false,e,Rat.intCast_natCast]
  exact tq hn hs hm
 | true =>
  have e:iV d=-(d.mag:Int):=by unfold iV; rw [hs]; rfl
  rw [decide_eq_true (by rw [e,Int.sign_eq_neg_one_of_neg og]; decide),cond_true,e]
  have hN:(ax d).neg=false:=by
   unfold ax aQ; rw [hs]; rfl
  have hM:(ax d).mag=d.mag:=rfl
  obtain ⟨k1,k2⟩:=tq (tH n) hN (by rw [hM]; exact hm)
  refine ⟨k1,k2.trans ?_⟩
  rw [qW,hM,Rat.intCast_neg,Rat.intCast_neg,Rat.intCast_natCast]
  have d0:(d.mag:Rat)≠0:=by
   intro e
   have:d.mag=0:=by exact_mod_cast e
   omega
  grind
theorem xw {x:GQ} (h:QOk x):(o7 x:Rat)≠0:=by
 intro e
 have:o7 x=0:=by exact_mod_cast e
 have:=h.pos
 omega
theorem uO {x:GQ} (h:QOk x):(0:Rat) < (o7 x:Rat):=by
 have:=h.pos
 exact_mod_cast this
theorem yB {x y:GQ} (hx:QOk x) (hy:QOk y):∃ D:Rat,0 < D∧(iV (a6 x y).1:Rat)=gM x*D∧(iV (a6 x y).2.1:Rat)=gM y*D∧(iV (a6 x y).2.2:Rat)=D∧IOk (a6 x y).1∧IOk (a6 x y).2.1:=by
 have h1:=uO hx
 have h2:=uO hy
 unfold a6
 by_cases e:x.den=y.den
 ·rw [decide_eq_true e,cond_true]
  have e2:o7 x=o7 y:=by unfold o7; rw [e]
  refine ⟨o7 x,h1,?_,?_,?_,hx.1,hy.1⟩
  ·unfold gM; show (iV x.num:Rat)=_; grind
  ·unfold gM; rw [e2]; show (iV y.num:Rat)=_; grind
  ·show (iV (aa x):Rat)=_
   rw [(nu hx).1,Rat.intCast_natCast]
 ·rw [decide_eq_false e,cond_false]
  refine ⟨(o7 x:Rat)*(o7 y:Rat),Rat.mul_pos h1 h2,?_,?_,?_,y6 _ _,y6 _ _⟩
  ·show (iV (ab x.num (aa y)):Rat)=_
   rw [oI,Rat.intCast_mul,(nu hy).1,Rat.intCast_natCast]
   unfold gM; grind
  ·show (iV (ab y.num (aa x)):Rat)=_
   rw [oI,Rat.intCast_mul,(nu hx).1,Rat.intCast_natCast]
   unfold gM; grind
  ·show (iV (ab (aa x) (aa y)):Rat)=_
   rw [oI,Rat.intCast_mul,(nu hx).1,(nu hy).1,Rat.intCast_natCast,Rat.intCast_natCast]
theorem qV {x y:GQ} (hx:QOk x) (hy:QOk y):QOk (bc x y)∧gM (bc x y)=gM x+gM y:=by
 obtain ⟨D,h0,h1,h2,h3,_,_⟩:=yB hx hy
 unfold bc
 have hd:iV (a6 x y).2.2≠0:=fun e=>by
  rw [e] at h3
  have h4:(0:Rat)=D:=h3
  grind
 obtain ⟨k1,k2⟩:=vn (Add_ok (a6 x y).1 (a6 x y).2.1) hd
 refine ⟨k1,?_⟩
 rw [k2,Add_val,Rat.intCast_add,h1,h2,h3]
 grind
theorem sI {x y:GQ} (hx:QOk x) (hy:QOk y):QOk (aC x y)∧gM (aC x y)=gM x*gM y:=by
 unfold aC
 have e1:=(nu hx).1
 have e2:=(nu hy).1
 have h1:=hx.pos
 have h2:=hy.pos
 have hd:iV (ab (aa x) (aa y))≠0:=by
  rw [oI,e1,e2,← Int.natCast_mul]
  have:=Nat.mul_pos h1 h2
  omega
 obtain ⟨k1,k2⟩:=vn (y6 x.num y.num) hd
 refine ⟨k1,?_⟩
 rw [k2,oI,oI,e1,e2]
 simp only [Rat.intCast_mul,Rat.intCast_natCast]
 have d1:=xw hx
 have d2:=xw hy
 unfold gM
 grind
theorem neg_ok {x:GQ} (hx:QOk x):QOk (cp x)∧gM (cp x)=- gM x:=by
 refine ⟨⟨tH _,hx.2.1,hx.2.2⟩,?_⟩
 unfold gM cp
 show (iV (ax x.num):Rat) / (o7 x:Rat)=_
 rw [qW,Rat.intCast_neg]
 grind
theorem uz {x y:GQ} (hx:QOk x) (hy:QOk y):QOk (aA x y)∧gM (aA x y)=gM x - gM y:=by
 unfold aA
 obtain ⟨k1,k2⟩:=neg_ok hy
 obtain ⟨k3,k4⟩:=qV hx k1
 refine ⟨k3,?_⟩
 rw [k4,k2]; grind
theorem jg (n:Int):QOk (ah n)∧gM (ah n)=(n:Rat):=by
 refine ⟨⟨qX n,.inl rfl,Nat.coprime_one_right _⟩,?_⟩
 unfold gM
 show (iV (aq n):Rat) / ((1:Nat):Rat)=_
 rw [qn]
 grind
theorem zero_ok:QOk ⟨z0,z0⟩∧gM ⟨z0,z0⟩=0:=jg 0
end Go.Sx
namespace Go.Sx
def zQ:GQ:=⟨⟨false,0⟩,⟨false,0⟩⟩
theorem lW:QOk zQ∧gM zQ=0:=zero_ok
def DOk (q:Qd):Prop:=QOk q.c0∧QOk q.c1∧QOk q.c2
def TOk (t:GR):Prop:=QOk t.p∧QOk t.r
def lv (t:GR) (q:Qd):Rat×Rat :=
 if t.r=zQ then (gM q.c0+gM t.p*(gM q.c1+gM t.p*gM q.c2),0)
 else (gM q.c0+gM q.c2*(gM t.r - gM t.p*gM t.p),gM q.c1+(gM q.c2+gM q.c2)*gM t.p)
theorem eval_ok {q:Qd} {t:GQ} (hq:DOk q) (ht:QOk t):QOk (es q t)∧gM (es q t)=gM q.c0+gM t*(gM q.c1+gM t*gM q.c2):=by
 obtain ⟨h0,h1,h2⟩:=hq
 unfold es
 obtain ⟨a1,a2⟩:=sI ht h2
 obtain ⟨b1,b2⟩:=qV h1 a1
 obtain ⟨c1,c2⟩:=sI ht b1
 obtain ⟨d1,d2⟩:=qV h0 c1
 exact ⟨d1,by rw [d2,c2,b2,a2]⟩
theorem slope_ok {q:Qd} {t:GQ} (hq:DOk q) (ht:QOk t):QOk (dC q t)∧gM (dC q t)=gM q.c1+(gM q.c2+gM q.c2)*gM t:=by
 obtain ⟨h0,h1,h2⟩:=hq
 unfold dC
 obtain ⟨a1,a2⟩:=qV h2 h2
 obtain ⟨b1,b2⟩:=sI a1 ht
 obtain ⟨c1,c2⟩:=qV h1 b1
 exact ⟨c1,by rw [c2,b2,a2]⟩
theorem wS {p q:Qd} (hp:DOk p) (hq:DOk q):DOk (d7 p q)∧gM (d7 p q).c0=gM p.c0 - gM q.c0∧gM (d7 p q).c1=gM p.c1 - gM q.c1∧gM (d7 p q).c2=gM p.c2 - gM q.c2:=by
 unfold d7
 obtain ⟨a1,a2⟩:=uz hp.1 hq.1
 obtain ⟨b1,b2⟩:=uz hp.2.1 hq.2.1
 obtain ⟨c1,c2⟩:=uz hp.2.2 hq.2.2
 exact ⟨⟨a1,b1,c1⟩,a2,b2,c2⟩
theorem xY {a b:GQ} (ha:QOk a) (hb:QOk b):DOk (bm a b)∧(bm a b).c0=a∧(bm a b).c1=b∧(bm a b).c2=zQ:=by
 unfold bm
 exact ⟨⟨ha,hb,lW.1⟩,rfl,rfl,rfl⟩
theorem jY {q:Qd} {t:GR} (hq:DOk q) (ht:TOk t):DOk (bX q t)∧gM (bX q t).c0=(lv t q).1∧gM (bX q t).c1=(lv t q).2∧(bX q t).c2=zQ:=by
 unfold bX d6 lv
 by_cases e:t.r=zQ
 ·rw [decide_eq_true (show t.r=⟨⟨false,0⟩,⟨false,0⟩⟩ from e),if_pos e]
  obtain ⟨k1,k2⟩:=eval_ok hq ht.1
  exact ⟨⟨k1,lW.1,lW.1⟩,k2,lW.2,rfl⟩
 ·rw [decide_eq_false (show ¬ t.r=⟨⟨false,0⟩,⟨false,0⟩⟩ from e),if_neg e,Bool.not_false,cond_true,cond_false]
  obtain ⟨a1,a2⟩:=sI ht.1 ht.1
  obtain ⟨b1,b2⟩:=uz ht.2 a1
  obtain ⟨c1,c2⟩:=sI hq.2.2 b1
  obtain ⟨d1,d2⟩:=qV hq.1 c1
  obtain ⟨s1,s2⟩:=slope_ok hq ht.1
  obtain ⟨l1,l2,l3,l4⟩:=xY d1 s1
  exact ⟨l1,by rw [l2,d2,c2,b2,a2],by rw [l3,s2],l4⟩
theorem qd_ext {p q:Qd} (hp:DOk p) (hq:DOk q) (h0:gM p.c0=gM q.c0) (h1:gM p.c1=gM q.c1) (h2:gM p.c2=gM q.c2):p=q:=by
 have e0:=ri hp.1 hq.1 h0
 have e1:=ri hp.2.1 hq.2.1 h1
 have e2:=ri hp.2.2 hq.2.2 h2
 obtain ⟨a,b,c⟩:=p
 obtain ⟨x,y,z⟩:=q
 simp only at e0 e1 e2
 rw [e0,e1,e2]
theorem rl1 (a b c d e f p:Rat):(a - b)+p*((c - d)+p*(e - f))=(a+p*(c+p*e)) - (b+p*(d+p*f)):=by grind
theorem rl2 (a b c d x:Rat):(a - b)+(c - d)*x=(a+c*x) - (b+d*x):=by grind
theorem rl3 (a b c d x:Rat):(a - b)+((c - d)+(c - d))*x=(a+(c+c)*x) - (b+(d+d)*x):=by grind
theorem lv_sub {p q:Qd} {t:GR} (hp:DOk p) (hq:DOk q):lv t (d7 p q)=((lv t p).1 - (lv t q).1,(lv t p).2 - (lv t q).2):=by
 obtain ⟨_,e0,e1,e2⟩:=wS hp hq
 unfold lv
 by_cases e:t.r=zQ
 ·rw [if_pos e,if_pos e,if_pos e,e0,e1,e2,rl1]
  exact Prod.ext rfl (by show (0:Rat)=0 - 0; grind)
 ·rw [if_neg e,if_neg e,if_neg e,e0,e1,e2,rl2,rl3]
theorem kJ {p q:Qd} {t:GR} (hp:DOk p) (hq:DOk q) (ht:TOk t):fG p q t=true↔lv t p=lv t q:=by
 unfold fG
 rw [decide_eq_true_eq]
 obtain ⟨k1,_⟩:=wS hp hq
 obtain ⟨r1,r2,r3,r4⟩:=jY k1 ht
 rw [lv_sub hp hq] at r2 r3
 constructor
 ·intro h
  rw [h] at r2 r3
  have z:=lW.2
  unfold zQ at z
  refine Prod.ext ?_ ?_
  ·simp only at r2; grind
  ·simp only at r3; grind
 ·intro h
  refine qd_ext r1 ⟨lW.1,lW.1,lW.1⟩ ?_ ?_ ?_
  ·rw [r2,h]; show _=gM zQ; rw [lW.2]; grind
  ·rw [r3,h]; show _=gM zQ; rw [lW.2]; grind
  ·rw [r4]; rfl
theorem nM {q:Qd} {t:GR} (hq:DOk q) (ht:TOk t):lv t (bX q t)=lv t q:=by
 obtain ⟨r1,r2,r3,r4⟩:=jY hq ht
 have h:∀ x:Qd,gM x.c0=(lv t q).1→gM x.c1=(lv t q).2→x.c2=zQ→lv t x=lv t q:=by
  intro x e0 e1 e2
  have e3:gM x.c2=0:=by rw [e2]; exact lW.2
  have e4:t.r=zQ→(lv t q).2=0:=fun e=>by unfold lv; rw [if_pos e]
  conv=>lhs; unfold lv
  split
  ·rename_i e
   rw [e4 e] at e1
   refine Prod.ext ?_ ?_
   ·simp only; rw [e0,e1,e3]; grind
   ·simp only; rw [e4 e]
  ·refine Prod.ext ?_ ?_
   ·simp only; rw [e0,e3]; grind
   ·simp only; rw [e1,e3]; grind
 exact h _ r2 r3 r4
theorem sr {p q:Qd} {t:GR} (hp:DOk p) (hq:DOk q) (ht:TOk t):bX p t=bX q t↔lv t p=lv t q:=by
 obtain ⟨r1,r2,r3,r4⟩:=jY hp ht
 obtain ⟨s1,s2,s3,s4⟩:=jY hq ht
 constructor
 ·intro h; rw [← nM hp ht,← nM hq ht,h]
 ·intro h; exact qd_ext r1 s1 (by rw [r2,s2,h]) (by rw [r3,s3,h]) (by rw [r4,s4])
end Go.Sx
namespace Go.Sx
theorem sf (l:List (U Qd)):ao l=l6 bu l 0 l.length:=by
 unfold ao cK aZ em
 show a7 l 0 l.length=_
 unfold a7
 rfl
theorem p7 (a b:U Qd):bu a b=cU a b:=by
 unfold bu aU cU ci
 rfl
theorem i0 {d:List (U Qd)} (hd:∀ u∈d,Tv u.iv):(ao d).Perm d∧(ao d).Pairwise fun a b=>kU a.iv≤kU b.iv:=by
 rw [sf]
 exact vO p7 hd
theorem mC (l:List (U Qd)):am l []=kH (l.map (·.iv)):=by
 unfold am
 have:=pS (R:=List GR) (f:=fun (o:List GR) (u:U Qd)=>aw (aw o u.iv.lo) u.iv.hi) l (B:=fun s=>de l [] s.1 s.2)
  (fun o i hi=>by
    show de l [] o i=_
    unfold de
    rw [decide_eq_true (by omega:(i:Int) < (l.length:Int))]
    rfl)
  (fun o=>by
    show de l [] o l.length=_
    unfold de
    rw [decide_eq_false (by omega:¬ (l.length:Int) < (l.length:Int))]
    rfl) l [] [] (l.length - 0+1) rfl og
 refine (ir this).trans ?_
 unfold jb kH
 rw [List.foldl_map]
theorem mU (l:List (U Qd)) (ts:List GR):bT l ts=iJ (default:Qd) l ts:=by
 unfold bT iJ
 have h1:=qj (R:=List (At Qd)) (z:=(default:Qd)) (ts:=ts) (B:=fun s=>bY l ts s.1 s.2)
  (fun o i hi=>by
    show bY l ts o i=_
    unfold bY
    rw [decide_eq_true (by omega:(i:Int) < (ts.length:Int)),decide_eq_true (by omega:((i+1:Nat):Int) < (ts.length:Int))]
    rfl)
  (fun o i hi=>by
    show bY l ts o i=_
    unfold bY
    rw [decide_eq_true (by omega:(i:Int) < (ts.length:Int)),decide_eq_false (by omega:¬ ((i+1:Nat):Int) < (ts.length:Int))]
    rfl)
  (fun o=>by
    show bY l ts o ts.length=_
    unfold bY
    rw [decide_eq_false (by omega:¬ (ts.length:Int) < (ts.length:Int))]
    rfl) ts [] [] (ts.length - 0+1) rfl og
 refine (ir h1).trans ?_
 show gu l ts ([]++f7 (default:Qd) ts) ts.length=_
 rw [List.nil_append]
 generalize f7 (default:Qd) ts=o0
 unfold gu
 have h2:=uY (R:=List (At Qd)) (g:=kz l) (n:=o0.length) (B:=fun s=>cX l ts o0 ts.length s.1 s.2)
  (fun o i hi hn=>by
    show cX l ts o0 ts.length i o=_
    unfold cX
    rw [decide_eq_true (by omega:(i:Int) < (o.length:Int)),cond_true]
    have h3:=oB (R:=List (At Qd)) (f:=fun o u=>o.set i (lx u (gt o i))) l (I:=fun o=>i < o.length) (B:=fun s=>cP l ts o0 ts.length i o s.1 s.2)
     (fun o x h=>by simpa using h)
     (fun o k ho hk=>by
       show cP l ts o0 ts.length i _ k o=_
       unfold cP lx
       rw [decide_eq_true (by omega:(k:Int) < (l.length:Int)),cond_true]
       cases aT (gt l k).iv (gt o i).frm (gt o i).til (gt o i).gap
       ·rw [cond_false,cond_false,set_gt ho]
       ·rfl)
     (fun o'=>by
       show cP l ts o0 ts.length i _ l.length o'=_
       unfold cP
       rw [decide_eq_false (by omega:¬ (l.length:Int) < (l.length:Int))]
       rfl) l [] o (l.length - 0+1) hi rfl og
    refine (ir h3).trans ?_
    show gp l ts o0 ts.length i _ l.length _=_
    unfold gp
    rw [u9 i l o hi])
  (fun o hn=>by
    show cX l ts o0 ts.length o0.length o=_
    unfold cX
    rw [hn,decide_eq_false (by omega:¬ (o0.length:Int) < (o0.length:Int))]
    rfl) o0 [] (o0.length - 0+1) (by simp) og
 refine (ir h2).trans ?_
 rfl
theorem jL (l:List (U Qd)):af l=l.flatMap atU:=by
 unfold af
 have h:=oB (R:=List (U Qd)) (f:=fun o u=>o++atU u) l (I:=fun _=>True) (B:=fun s=>dS l s.1 s.2)
  (fun _ _ h=>h)
  (fun o i _ hi=>by
    show dS l i o=_
    unfold dS atU ptU m7
    rw [decide_eq_true (by omega:(i:Int) < (l.length:Int)),cond_true]
    cases (gt l i).iv.openLo <;> cases aN (gt l i).iv <;> cases (gt l i).iv.openHi <;> simp)
  (fun o=>by
    show dS l l.length o=_
    unfold dS
    rw [decide_eq_false (by omega:¬ (l.length:Int) < (l.length:Int))]
    rfl) l [] [] (l.length - 0+1) trivial rfl og
 refine (ir h).trans ?_
 show iL l l.length _=_
 unfold iL
 rw [pQ,List.nil_append]
theorem ii {l:List (U Qd)} (hl:(ao l).length=l.length) (h:∀ i,0 < i→i < l.length→dI (gt (ao l) (i - 1)).iv (gt (ao l) i).iv=true):bn l=dJ l l.length:=by
 unfold bn
 refine (ir (py (n:=l.length) (r:=(([],11):List (U Qd)×Int)) (bad:=fun x=>decide ((x:Int)>0) && !(dI (gt (ao l) (x - 1)).iv (gt (ao l) x).iv)) (fun x hx=>by
  unfold dY
  rw [hl,decide_eq_true (by omega:(x:Int) < (l.length:Int)),cond_true]) (by
  unfold dY
  rw [hl,decide_eq_false (by omega:¬ (l.length:Int) < (l.length:Int))]
  rfl) (l.length - 0+1) 0 (Nat.zero_le _) og fun i _ h2=>?_)).trans rfl
 by_cases e:0 < i
 ·show (decide ((i:Int)>0) && !(dI (gt (ao l) (i - 1)).iv (gt (ao l) i).iv))=false
  rw [h i e h2,Bool.not_true,Bool.and_false]
 ·show (decide ((i:Int)>0) && _)=false
  rw [decide_eq_false (by omega:¬ (i:Int)>0),Bool.false_and]
theorem qt (l:List (U Qd)) (x18:Nat) (out:List (U Qd)) (x:Nat) (hx:x < (af (ao l)).length) :
 cY l x18 out x=.go (du aX aB ar (af (ao l)) out x,x+1):=by
 unfold cY du jo ku tC lr eT
 rw [decide_eq_true (by omega:(x:Int) < (((af (ao l)).length:Nat):Int)),cond_true]
 generalize af (ao l)=L
 repeat' (first | refine ui ?_ ?_ | rfl)
theorem qe (l:List (At Qd)) (out:List (U Qd)) (i:Nat) (hi:i < l.length) :
 cO l out i=.go (eR aX aB ar l out i,i+1):=by
 unfold cO eR
 rw [decide_eq_true (by omega:(i:Int) < (l.length:Int)),cond_true]
 cases (gt l i).has <;> cases (gt l i).gap <;> simp only [Bool.not_true,Bool.not_false,cond_true,cond_false]
 ·repeat' (first | refine ui ?_ ?_ | rfl)
 ·repeat' (first | refine ui ?_ ?_ | rfl)
theorem ij (l:List (U Qd)) (n:Nat):dJ l n=(et (du aX aB ar (af (ao l))) [] (af (ao l)).length,0):=by
 unfold dJ
 refine (ir (pM (o:=([]:List (U Qd))) (st:=du aX aB ar (af (ao l))) (n:=(af (ao l)).length) (B:=fun s=>cY l n s.1 s.2)
  (fun o i hi=>qt l n o i hi) (fun o=>by
    show cY l n o _=_
    unfold cY
    rw [decide_eq_false (by omega:¬ (((af (ao l)).length:Nat):Int) < (((af (ao l)).length:Nat):Int))]
    rfl) _ 0 (Nat.zero_le _) og)).trans ?_
 rfl
theorem kq (l:List (At Qd)):dc l=et (eR aX aB ar l) [] l.length:=by
 unfold dc
 refine (ir (pM (o:=([]:List (U Qd))) (st:=eR aX aB ar l) (n:=l.length) (B:=fun s=>cO l s.1 s.2)
  (fun o i hi=>qe l o i hi) (fun o=>by
    show cO l o _=_
    unfold cO
    rw [decide_eq_false (by omega:¬ (l.length:Int) < (l.length:Int))]
    rfl) _ 0 (Nat.zero_le _) og)).trans ?_
 rfl
theorem qo (he:∀ f,aX f f=true) (l:List (U Qd)):dG l l=true:=by
 unfold dG
 rw [show (((l.length:Int)) != ((l.length:Int)))=false by simp,cond_false]
 refine (ir (py (n:=l.length) (r:=false) (bad:=fun i=>((!(decide ((gt l i).iv=(gt l i).iv))) || (!(aX ((gt l i).f) ((gt l i).f))))) (fun i hi=>by
  unfold eA
  rw [decide_eq_true (by omega:(i:Int) < (l.length:Int)),cond_true]) (by
  unfold eA
  rw [decide_eq_false (by omega:¬ (l.length:Int) < (l.length:Int))]
  rfl) (l.length - 0+1) 0 (Nat.zero_le _) og fun i _ _=>?_)).trans rfl
 rw [he,decide_eq_true rfl]
 rfl
theorem m9 (heq:∀ a b,aX a b=true→a=b) {d u:List (U Qd)} (hp:d.Perm u) (hW:∀ x∈u,Wv x.iv) (hD:u.Pairwise fun a b=>Dj a.iv b.iv):bn d=(bo u,0):=by
 have hWd:∀ x∈d,Wv x.iv:=fun x hx=>hW x (hp.mem_iff.1 hx)
 obtain ⟨s1,s2⟩:=i0 (fun x hx=>(hWd x hx).1)
 have hps:=s1.trans hp
 have hE:=(mT (l:=u.map (·.iv)) (fun i hi=>by obtain ⟨x,hx,rfl⟩:=List.mem_map.1 hi; exact (hW x hx).1)).1
 rw [ii s1.length_eq fun i h0 h1=>(mV hW hps s2).2 hD i h0 (by rw [s1.length_eq]; exact h1),ij]
 have e1:af (ao d)=kE (iJ (default:Qd) u (kH (u.map (·.iv)))):=by
  rw [jL]; exact atoms_eq hW hD hps s2
 unfold bo
 rw [e1,kq,mC,mU,loops_eq heq (pu hE)]
end Go.Sx
namespace Go.Sx
theorem knw:iD=true:=by decide +kernel
end Go.Sx
