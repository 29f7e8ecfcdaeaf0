import Derived.Test.YtbenbmdkhcfcfaaGreatDoorM1
import Derived.Test.YtbenbmdkhcfcfaaGreatDoorM3
import Derived.Test.YtbenbmdkhcfcfaaGreatDoorS0
set_option linter.unusedVariables false
set_option linter.unusedSimpArgs false
namespace Go.Sx
theorem jq {σ R:Type} {B:σ→Nx σ R} {I Q:σ→Prop} {μ:σ→Nat}
 (h:∀ s,I s→(∃ s',B s=.go s'∧I s'∧μ s' < μ s)∨(∃ s',B s=.out s'∧Q s')) :
 ∀ N s,I s→μ s < N→∃ s',bt B N s=.inl s'∧Q s'
 | 0,s,_,hm=>absurd hm (Nat.not_lt_zero _)
 | N+1,s,hI,hm=>by
  rcases h s hI with ⟨s',e,hI',hm'⟩ | ⟨s',e,hq⟩
  ·obtain ⟨t,ht,hq⟩:=jq h N s' hI' og
   exact ⟨t,by simp only [bt,e]; exact ht,hq⟩
  ·exact ⟨s',by simp only [bt,e],hq⟩
def SW {α:Type} (f:Nat→α) (a b n k:Nat):α:=if a≤k∧k < a+n then f (b+(k - a)) else if b≤k∧k < b+n then f (a+(k - b)) else f k
def RO {α:Type} (f:Nat→α) (p m q k:Nat):α:=if p≤k∧k < p+(q - m) then f (k+(m - p)) else if p+(q - m)≤k∧k < q then f (k - (q - m)) else f k
theorem ro_gt {α:Type} (f:Nat→α) {m i j:Nat} (h:j < i) (hi:i≤m) (hj:0 < j) (k:Nat):RO f (m - i) m (m+j) k=RO (SW f (m - i) m j) (m - (i - j)) m (m+j) k:=by
 unfold RO SW
 repeat' split
 all_goals first | rfl | (exfalso; omega) | (congr 1; omega)
theorem ro_lt {α:Type} (f:Nat→α) {m i j:Nat} (h:i < j) (hi:i≤m) (h0:0 < i) (k:Nat):RO f (m - i) m (m+j) k=RO (SW f (m - i) (m+j - i) i) (m - i) m (m+(j - i)) k:=by
 unfold RO SW
 repeat' split
 all_goals first | rfl | (exfalso; omega) | (congr 1; omega)
theorem ro_eq {α:Type} (f:Nat→α) {m i:Nat} (hi:i≤m) (k:Nat):RO f (m - i) m (m+i) k=SW f (m - i) m i k:=by
 unfold RO SW
 repeat' split
 all_goals first | rfl | (exfalso; omega) | (congr 1; omega)
theorem uJ {α:Type} {f g:Nat→α} (h:∀ k,f k=g k) (a b n k:Nat):RO f a b n k=RO g a b n k:=by rw [funext h]
section
variable {α:Type} [Inhabited α]
theorem j9 {d:List α} {i:Nat} (h:i < d.length):gt d i∈d:=by
 unfold gt; rw [List.getD_eq_getElem?_getD,List.getElem?_eq_getElem h]; exact List.getElem_mem h
theorem x7 (d:List α) (i:Nat) (x:α) (k:Nat):gt (d.set i x) k=if k=i∧i < d.length then x else gt d k:=by
 unfold gt
 rw [List.getD_eq_getElem?_getD,List.getD_eq_getElem?_getD,List.getElem?_set]
 by_cases h:i=k
 ·subst h
  by_cases h2:i < d.length
  ·simp [h2]
  ·simp [h2]
 ·rw [if_neg h,if_neg og]
def sd (d:List α) (i j:Nat):List α:=(d.set i (gt d j)).set j (gt d i)
theorem lM {d:List α} {i j:Nat} (hi:i < d.length) (hj:j < d.length) (k:Nat):gt (sd d i j) k=if k=j then gt d i else if k=i then gt d j else gt d k:=by
 unfold sd
 rw [x7,x7,List.length_set]
 by_cases h:k=j
 ·rw [if_pos ⟨h,hj⟩,if_pos h]
 ·rw [if_neg og,if_neg h]
  by_cases h2:k=i
  ·rw [if_pos ⟨h2,hi⟩,if_pos h2]
  ·rw [if_neg og,if_neg h2]
theorem x9 {d:List α} {i:Nat} (h:i < d.length):d[i]?=some (gt d i):=by
 unfold gt; rw [List.getD_eq_getElem?_getD,List.getElem?_eq_getElem h]; rfl
theorem vJ {d:List α} {i j:Nat} (hi:i < d.length) (hj:j < d.length) (hij:i≠j):(sd d i j).Perm d:=by
 obtain ⟨B,h1,h2⟩:=sB (gt d j) (gt d i) hij (x9 hi) (x9 hj)
 exact (h2.symm.trans (.swap _ _ _)).trans h1.symm
structure Mrg (d d':List α) (a b:Nat):Prop where
 perm:d'.Perm d
 out:∀ k,k < a∨b≤k→gt d' k=gt d k
 inn:∀ x,a≤x→x < b→∃ y,a≤y∧y < b∧gt d' x=gt d y
theorem Mrg.len {d d':List α} {a b:Nat} (h:Mrg d d' a b):d'.length=d.length:=h.perm.length_eq
theorem Mrg.refl (d:List α) (a b:Nat):Mrg d d a b:=⟨.refl _,fun _ _=>rfl,fun x h1 h2=>⟨x,h1,h2,rfl⟩⟩
theorem Mrg.mono {d d':List α} {a b a' b':Nat} (h:Mrg d d' a b) (ha:a'≤a) (hb:b≤b'):Mrg d d' a' b':=by
 refine ⟨h.perm,fun k hk=>h.out k og,fun x h1 h2=>?_⟩
 by_cases hx:a≤x∧x < b
 ·obtain ⟨y,p,q,e⟩:=h.inn x hx.1 hx.2; exact ⟨y,by omega,by omega,e⟩
 ·exact ⟨x,h1,h2,h.out x og⟩
theorem Mrg.trans {d d1 d2:List α} {a b:Nat} (h:Mrg d d1 a b) (k:Mrg d1 d2 a b):Mrg d d2 a b:=by
 refine ⟨k.perm.trans h.perm,fun q hq=>(k.out q hq).trans (h.out q hq),fun x h1 h2=>?_⟩
 obtain ⟨y,p,q,e⟩:=k.inn x h1 h2
 obtain ⟨z,p',q',e'⟩:=h.inn y p q
 exact ⟨z,p',q',e.trans e'⟩
theorem Mrg.swap {d:List α} {a b i j:Nat} (hi:a≤i) (hi2:i < b) (hj:a≤j) (hj2:j < b) (hb:b≤d.length) (hij:i≠j):Mrg d (sd d i j) a b:=by
 refine ⟨vJ og og hij,fun k hk=>?_,fun x h1 h2=>?_⟩
 ·rw [lM og og,if_neg og,if_neg og]
 ·rw [lM og og]
  split
  ·exact ⟨i,hi,hi2,rfl⟩
  ·split
   ·exact ⟨j,hj,hj2,rfl⟩
   ·exact ⟨x,h1,h2,rfl⟩
def swpB (a b n i:Nat) (d:List α):Nx (Nat×List α) (List α) :=
 bif (decide ((i:Int) < (n:Int))) then
  .go ((i+1),((d.set (a+i) (gt d (b+i))).set (b+i) (gt d (a+i))))
 else
  .out (i,d)
def swp (d:List α) (a b n:Nat):List α :=
 fin (bt (fun s=>swpB a b n s.1 s.2) ((n - 0)+1) (0,d)) (fun s=>s.2) (fun r=>r)
theorem q6 {d:List α} {a b n:Nat} (hab:a+n≤b) (hb:b+n≤d.length):Mrg d (swp d a b n) a (b+n)∧∀ k,gt (swp d a b n) k=SW (gt d) a b n k:=by
 obtain ⟨⟨i,d'⟩,e,h⟩:=jq (B:=fun s:Nat×List α=>swpB a b n s.1 s.2) (I:=fun s=>s.1≤n∧Mrg d s.2 a (b+n)∧∀ k,gt s.2 k=SW (gt d) a b s.1 k)
  (Q:=fun s=>Mrg d s.2 a (b+n)∧∀ k,gt s.2 k=SW (gt d) a b n k) (μ:=fun s=>n - s.1) (fun ⟨i,d1⟩ ⟨h1,h2,h3⟩=>by
    dsimp only at h1 h2 h3 ⊢
    have hl:=h2.len
    by_cases hi:i < n
    ·refine .inl ⟨(i+1,sd d1 (a+i) (b+i)),?_,⟨by dsimp only; omega,h2.trans (Mrg.swap og og og og og og),?_⟩,by dsimp only; omega⟩
     ·unfold swpB; rw [decide_eq_true (by omega:(i:Int) < (n:Int))]; rfl
     ·intro k
      dsimp only
      rw [lM og og,h3,h3,h3]
      unfold SW
      repeat' split
      all_goals first | rfl | (exfalso; omega) | (congr 1; omega)
    ·refine .inr ⟨(i,d1),?_,h2,?_⟩
     ·unfold swpB; rw [decide_eq_false (by omega:¬ (i:Int) < (n:Int))]; rfl
     ·have:i=n:=by omega
      subst this; exact h3) (n - 0+1) (0,d) ⟨Nat.zero_le _,Mrg.refl _ _ _,fun k=>by
       unfold SW
       rw [if_neg (by dsimp only; omega),if_neg (by dsimp only; omega)]⟩ (by dsimp only; omega)
 have e2:swp d a b n=d':=ir e
 rw [e2]; exact h
def rotB (m i j:Nat) (d:List α):Nx (Nat×Nat×List α) (List α) :=
 bif (((i:Int)) != ((j:Int))) then
  bif (decide ((i:Int)>(j:Int))) then
   .go ((i - j),j,(swp d (m - i) m j))
  else
   .go (i,(j - i),(swp d (m - i) ((m+j) - i) i))
 else
  .out (i,j,d)
def rot (d:List α) (a m b:Nat):List α :=
 fin (bt (fun s=>rotB m s.1 s.2.1 s.2.2) ((m - a)+(b - m)+1) ((m - a),(b - m),d)) (fun s=>swp s.2.2 (m - s.1) m s.1) (fun r=>r)
theorem rot_spec {d:List α} {a m b:Nat} (ham:a < m) (hmb:m < b) (hb:b≤d.length):Mrg d (rot d a m b) a b∧∀ k,gt (rot d a m b) k=RO (gt d) a m b k:=by
 obtain ⟨⟨i,j,d'⟩,e,h1,h2,h3,h4,h5⟩:=jq (B:=fun s:Nat×Nat×List α=>rotB m s.1 s.2.1 s.2.2)
  (I:=fun s=>0 < s.1∧0 < s.2.1∧a+s.1≤m∧m+s.2.1≤b∧Mrg d s.2.2 a b∧∀ k,RO (gt d) a m b k=RO (gt s.2.2) (m - s.1) m (m+s.2.1) k)
  (Q:=fun s=>s.1=s.2.1∧a+s.1≤m∧m+s.2.1≤b∧Mrg d s.2.2 a b∧∀ k,RO (gt d) a m b k=RO (gt s.2.2) (m - s.1) m (m+s.2.1) k) (μ:=fun s=>s.1+s.2.1) (fun ⟨i,j,d1⟩ ⟨h1,h2,h3,h4,h5,h6⟩=>by
    dsimp only at h1 h2 h3 h4 h5 h6 ⊢
    have hl:=h5.len
    rcases Nat.lt_trichotomy i j with h | h | h
    ·obtain ⟨hm,hg⟩:=q6 (d:=d1) (a:=m - i) (b:=m+j - i) (n:=i) og og
     refine .inl ⟨(i,j - i,swp d1 (m - i) (m+j - i) i),?_,⟨h1,by dsimp only; omega,h3,by dsimp only; omega,h5.trans (hm.mono og og),fun k=>?_⟩,by dsimp only; omega⟩
     ·unfold rotB
      rw [show ((i:Int) != (j:Int))=true from bne_iff_ne.2 og,decide_eq_false (by omega:¬ (i:Int)>(j:Int))]; rfl
     ·dsimp only
      rw [h6,ro_lt _ h og h1,uJ hg]
    ·subst h
     refine .inr ⟨(i,i,d1),?_,rfl,h3,h4,h5,h6⟩
     unfold rotB
     rw [show ((i:Int) != (i:Int))=false from by simp]; rfl
    ·obtain ⟨hm,hg⟩:=q6 (d:=d1) (a:=m - i) (b:=m) (n:=j) og og
     refine .inl ⟨(i - j,j,swp d1 (m - i) m j),?_,⟨by dsimp only; omega,h2,by dsimp only; omega,h4,h5.trans (hm.mono og og),fun k=>?_⟩,by dsimp only; omega⟩
     ·unfold rotB
      rw [show ((i:Int) != (j:Int))=true from bne_iff_ne.2 og,decide_eq_true (by omega:(i:Int)>(j:Int))]; rfl
     ·dsimp only
      rw [h6,ro_gt _ h og h2,uJ hg]) ((m - a)+(b - m)+1) ((m - a),(b - m),d) ⟨by dsimp only; omega,by dsimp only; omega,by dsimp only; omega,by dsimp only; omega,Mrg.refl _ _ _,fun k=>by
       dsimp only
       rw [show m - (m - a)=a by omega,show m+(b - m)=b by omega]⟩ (by dsimp only; omega)
 dsimp only at h1 h2 h3 h4 h5
 subst h1
 have hl:=h4.len
 have e2:rot d a m b=swp d' (m - i) m i:=ir e
 obtain ⟨hm,hg⟩:=q6 (d:=d') (a:=m - i) (b:=m) (n:=i) og og
 rw [e2]
 exact ⟨h4.trans (hm.mono og og),fun k=>by rw [hg,h5,ro_eq _ og]⟩
theorem un {R:Type} {B:Nat×Nat→Nx (Nat×Nat) R} {p:Nat→Bool} {lo hi:Nat}
 (hB:∀ i j,B (i,j)=bif decide ((i:Int) < (j:Int)) then (bif p ((i+j) / 2) then .go (((i+j) / 2)+1,j) else .go (i,((i+j) / 2))) else .out (i,j))
 (hmon:∀ x y,lo≤x→x≤y→y < hi→p y=true→p x=true) (hle:lo≤hi) (N:Nat) (hN:hi - lo < N) :
 ∃ i,bt B N (lo,hi)=.inl (i,i)∧lo≤i∧i≤hi∧(∀ x,lo≤x→x < i→p x=true)∧(∀ x,i≤x→x < hi→p x=false):=by
 obtain ⟨⟨i,j⟩,e,h1,h2,h3,h4,h5⟩:=jq (B:=B) (I:=fun s=>lo≤s.1∧s.1≤s.2∧s.2≤hi∧(∀ x,lo≤x→x < s.1→p x=true)∧(∀ x,s.2≤x→x < hi→p x=false))
  (Q:=fun s=>s.1=s.2∧lo≤s.1∧s.2≤hi∧(∀ x,lo≤x→x < s.1→p x=true)∧(∀ x,s.2≤x→x < hi→p x=false)) (μ:=fun s=>s.2 - s.1) (fun ⟨i,j⟩ ⟨h1,h2,h3,h4,h5⟩=>by
    dsimp only at h1 h2 h3 h4 h5 ⊢
    by_cases hij:i < j
    ·cases hp:p ((i+j) / 2) with
     | true=>exact .inl ⟨((i+j) / 2+1,j),by rw [hB,decide_eq_true (by omega:(i:Int) < (j:Int)),hp]; rfl,⟨by dsimp only; omega,by dsimp only; omega,h3,fun x hx hx2=>hmon x ((i+j) / 2) hx (by dsimp only at hx2; omega) og hp,h5⟩,by dsimp only; omega⟩
     | false =>
      refine .inl ⟨(i,(i+j) / 2),by rw [hB,decide_eq_true (by omega:(i:Int) < (j:Int)),hp]; rfl,⟨h1,by dsimp only; omega,by dsimp only; omega,h4,fun x hx hx2=>?_⟩,by dsimp only; omega⟩
      cases hq:p x with
      | false=>rfl
      | true=>rw [hmon ((i+j) / 2) x og hx hx2 hq] at hp; cases hp
    ·exact .inr ⟨(i,j),by rw [hB,decide_eq_false (by omega:¬ (i:Int) < (j:Int))]; rfl,by dsimp only; omega,h1,h3,h4,h5⟩) N (lo,hi) ⟨Nat.le_refl _,hle,Nat.le_refl _,fun x _ _=>by dsimp only at *; omega,fun x _ _=>by dsimp only at *; omega⟩ hN
 dsimp only at h1 h2 h3 h4 h5
 subst h1
 exact ⟨i,e,h2,h3,h4,h5⟩
end
end Go.Sx
namespace Go.Sx
def symF_K2 {α:Type} [Inhabited α] (c:α→α→Int) (rec_:List α→Nat→Nat→Nat→List α) (data:List α) (a:Nat) (m:Nat) (b:Nat) (i:Nat) (j:Nat) (k2:Nat) (data2:List α):List α :=
 data2
def wP {α:Type} [Inhabited α] (c:α→α→Int) (rec_:List α→Nat→Nat→Nat→List α) (data:List α) (a:Nat) (m:Nat) (b:Nat) (i:Nat) (j:Nat) (k2:Nat) (data2:List α):Nx (Nat×(List α)) (List α) :=
 bif (decide ((k2:Int) < (((i - 1):Nat):Int))) then
  .go ((k2+1),((data2.set k2 (gt data2 (k2+1))).set (k2+1) (gt data2 k2)))
 else
  .out (k2,data2)
def symF_K1 {α:Type} [Inhabited α] (c:α→α→Int) (rec_:List α→Nat→Nat→Nat→List α) (data:List α) (a:Nat) (m:Nat) (b:Nat) (i:Nat) (j:Nat):List α :=
 fin (bt (fun s=>wP c rec_ data a m b i j s.1 s.2) ((i - a)+1) (a,data)) (fun s=>symF_K2 c rec_ data a m b i j s.1 s.2) (fun r=>r)
def wQ {α:Type} [Inhabited α] (c:α→α→Int) (rec_:List α→Nat→Nat→Nat→List α) (data:List α) (a:Nat) (m:Nat) (b:Nat) (i:Nat) (j:Nat):Nx (Nat×Nat) (List α) :=
 bif (decide ((i:Int) < (j:Int))) then
  bif (decide ((c (gt data ((i+j) / 2)) (gt data a)) < 0)) then
   .go ((((i+j) / 2)+1),j)
  else
   .go (i,((i+j) / 2))
 else
  .out (i,j)
def symF_K4 {α:Type} [Inhabited α] (c:α→α→Int) (rec_:List α→Nat→Nat→Nat→List α) (data:List α) (a:Nat) (m:Nat) (b:Nat) (i:Nat) (j:Nat) (k4:Nat) (data4:List α):List α :=
 data4
def wN {α:Type} [Inhabited α] (c:α→α→Int) (rec_:List α→Nat→Nat→Nat→List α) (data:List α) (a:Nat) (m:Nat) (b:Nat) (i:Nat) (j:Nat) (k4:Nat) (data4:List α):Nx (Nat×(List α)) (List α) :=
 bif (decide ((k4:Int)>(i:Int))) then
  .go ((k4 - 1),((data4.set k4 (gt data4 (k4 - 1))).set (k4 - 1) (gt data4 k4)))
 else
  .out (k4,data4)
def symF_K3 {α:Type} [Inhabited α] (c:α→α→Int) (rec_:List α→Nat→Nat→Nat→List α) (data:List α) (a:Nat) (m:Nat) (b:Nat) (i:Nat) (j:Nat):List α :=
 fin (bt (fun s=>wN c rec_ data a m b i j s.1 s.2) (m+1) (m,data)) (fun s=>symF_K4 c rec_ data a m b i j s.1 s.2) (fun r=>r)
def wO {α:Type} [Inhabited α] (c:α→α→Int) (rec_:List α→Nat→Nat→Nat→List α) (data:List α) (a:Nat) (m:Nat) (b:Nat) (i:Nat) (j:Nat):Nx (Nat×Nat) (List α) :=
 bif (decide ((i:Int) < (j:Int))) then
  bif (!(decide ((c (gt data m) (gt data ((i+j) / 2))) < 0))) then
   .go ((((i+j) / 2)+1),j)
  else
   .go (i,((i+j) / 2))
 else
  .out (i,j)
def j0 {α:Type} [Inhabited α] (c:α→α→Int) (rec_:List α→Nat→Nat→Nat→List α) (data:List α) (a:Nat) (m:Nat) (b:Nat) (start:Nat) (r:Nat):List α :=
 bif ((decide ((start:Int) < (m:Int))) && (decide ((m:Int) < ((((((a+b) / 2)+m) - start):Nat):Int)))) then
  bif ((decide ((a:Int) < (start:Int))) && (decide ((start:Int) < ((((a+b) / 2:Nat)):Int)))) then
   bif ((decide (((((a+b) / 2:Nat)):Int) < ((((((a+b) / 2)+m) - start):Nat):Int))) && (decide (((((((a+b) / 2)+m) - start):Nat):Int) < (b:Int)))) then
    (rec_ (rec_ (rot data start m ((((a+b) / 2)+m) - start)) a start ((a+b) / 2)) ((a+b) / 2) ((((a+b) / 2)+m) - start) b)
   else
    (rec_ (rot data start m ((((a+b) / 2)+m) - start)) a start ((a+b) / 2))
  else
   bif ((decide (((((a+b) / 2:Nat)):Int) < ((((((a+b) / 2)+m) - start):Nat):Int))) && (decide (((((((a+b) / 2)+m) - start):Nat):Int) < (b:Int)))) then
    (rec_ (rot data start m ((((a+b) / 2)+m) - start)) ((a+b) / 2) ((((a+b) / 2)+m) - start) b)
   else
    (rot data start m ((((a+b) / 2)+m) - start))
 else
  bif ((decide ((a:Int) < (start:Int))) && (decide ((start:Int) < ((((a+b) / 2:Nat)):Int)))) then
   bif ((decide (((((a+b) / 2:Nat)):Int) < ((((((a+b) / 2)+m) - start):Nat):Int))) && (decide (((((((a+b) / 2)+m) - start):Nat):Int) < (b:Int)))) then
    (rec_ (rec_ data a start ((a+b) / 2)) ((a+b) / 2) ((((a+b) / 2)+m) - start) b)
   else
    (rec_ data a start ((a+b) / 2))
  else
   bif ((decide (((((a+b) / 2:Nat)):Int) < ((((((a+b) / 2)+m) - start):Nat):Int))) && (decide (((((((a+b) / 2)+m) - start):Nat):Int) < (b:Int)))) then
    (rec_ data ((a+b) / 2) ((((a+b) / 2)+m) - start) b)
   else
    data
def nX {α:Type} [Inhabited α] (c:α→α→Int) (rec_:List α→Nat→Nat→Nat→List α) (data:List α) (a:Nat) (m:Nat) (b:Nat) (start:Nat) (r:Nat):Nx (Nat×Nat) (List α) :=
 bif (decide ((start:Int) < (r:Int))) then
  bif (!(decide ((c (gt data (((((a+b) / 2)+m) - 1) - ((start+r) / 2))) (gt data ((start+r) / 2))) < 0))) then
   .go ((((start+r) / 2)+1),r)
  else
   .go (start,((start+r) / 2))
 else
  .out (start,r)
def tI {α:Type} [Inhabited α] (c:α→α→Int) (rec_:List α→Nat→Nat→Nat→List α) (data:List α) (a:Nat) (m:Nat) (b:Nat):List α :=
 bif (((((m - a):Nat):Int)) == (((1:Nat):Int))) then
  fin (bt (fun s=>wQ c rec_ data a m b s.1 s.2) (b - m+1) (m,b)) (fun s=>symF_K1 c rec_ data a m b s.1 s.2) (fun r=>r)
 else
  bif (((((b - m):Nat):Int)) == (((1:Nat):Int))) then
   fin (bt (fun s=>wO c rec_ data a m b s.1 s.2) (m - a+1) (a,m)) (fun s=>symF_K3 c rec_ data a m b s.1 s.2) (fun r=>r)
  else
   bif (decide ((m:Int)>((((a+b) / 2:Nat)):Int))) then
    fin (bt (fun s=>nX c rec_ data a m b s.1 s.2) (((a+b) / 2) - ((((a+b) / 2)+m) - b)+1) (((((a+b) / 2)+m) - b),((a+b) / 2))) (fun s=>j0 c rec_ data a m b s.1 s.2) (fun r=>r)
   else
    fin (bt (fun s=>nX c rec_ data a m b s.1 s.2) (m - a+1) (a,m)) (fun s=>j0 c rec_ data a m b s.1 s.2) (fun r=>r)
def symN {α:Type} [Inhabited α] (c:α→α→Int):Nat→List α→Nat→Nat→Nat→List α
 | 0,d,_,_,_=>d
 | K+1,d,a,m,b=>tI c (symN c K) d a m b
def sym {α:Type} [Inhabited α] (c:α→α→Int) (data:List α) (a:Nat) (m:Nat) (b:Nat):List α:=symN c (b - a+1) data a m b
def stb_K2 {α:Type} [Inhabited α] (c:α→α→Int) (data:List α) (n:Nat) (a:Nat) (b:Nat) (data1:List α) (blockSize:Nat) (data2:List α):List α :=
 data2
def uA {α:Type} [Inhabited α] (c:α→α→Int) (data:List α) (n:Nat) (a:Nat) (b:Nat) (data1:List α) (blockSize:Nat) (data2:List α) (a3:Nat) (b3:Nat) (data3:List α):Nx (Nat×(List α)) (List α) :=
 bif (decide (((a3+blockSize:Nat):Int) < (n:Int))) then
  .go ((blockSize*2),(sym c data3 a3 (a3+blockSize) n))
 else
  .go ((blockSize*2),data3)
def se {α:Type} [Inhabited α] (c:α→α→Int) (data:List α) (n:Nat) (a:Nat) (b:Nat) (data1:List α) (blockSize:Nat) (data2:List α) (a3:Nat) (b3:Nat) (data3:List α):Nx (Nat×Nat×(List α)) (List α) :=
 bif (decide ((b3:Int)≤(n:Int))) then
  .go (b3,(b3+(2*blockSize)),(sym c data3 a3 (a3+blockSize) b3))
 else
  .out (a3,b3,data3)
def uB {α:Type} [Inhabited α] (c:α→α→Int) (data:List α) (n:Nat) (a:Nat) (b:Nat) (data1:List α) (blockSize:Nat) (data2:List α):Nx (Nat×(List α)) (List α) :=
 bif (decide ((blockSize:Int) < (n:Int))) then
  fin (bt (fun s=>se c data n a b data1 blockSize data2 s.1 s.2.1 s.2.2) (n - 0+1) (0,(2*blockSize),data2)) (fun s=>uA c data n a b data1 blockSize data2 s.1 s.2.1 s.2.2) (fun r=>.ret r)
 else
  .out (blockSize,data2)
def stb_K1 {α:Type} [Inhabited α] (c:α→α→Int) (data:List α) (n:Nat) (a:Nat) (b:Nat) (data1:List α):List α :=
 fin (bt (fun s=>uB c data n a b data1 s.1 s.2) (n - 20+1) (20,(l6 c data1 a n))) (fun s=>stb_K2 c data n a b data1 s.1 s.2) (fun r=>r)
def uC {α:Type} [Inhabited α] (c:α→α→Int) (data:List α) (n:Nat) (a:Nat) (b:Nat) (data1:List α):Nx (Nat×Nat×(List α)) (List α) :=
 bif (decide ((b:Int)≤(n:Int))) then
  .go (b,(b+20),(l6 c data1 a b))
 else
  .out (a,b,data1)
def stb {α:Type} [Inhabited α] (c:α→α→Int) (data:List α) (n:Nat):List α :=
 fin (bt (fun s=>uC c data n s.1 s.2.1 s.2.2) (n+20 - 20+1) (0,20,data)) (fun s=>stb_K1 c data n s.1 s.2.1 s.2.2) (fun r=>r)
end Go.Sx
namespace Go.Sx
section
variable {α:Type} [Inhabited α]
def Srtd (K:α→Nat) (d:List α) (a b:Nat):Prop:=∀ x y,a≤x→x < y→y < b→K (gt d x)≤K (gt d y)
theorem Srtd.le {K:α→Nat} {d:List α} {a b:Nat} (h:Srtd K d a b) {x y:Nat} (h1:a≤x) (h2:x≤y) (h3:y < b):K (gt d x)≤K (gt d y):=by
 rcases Nat.lt_or_ge x y with e | e
 ·exact h x y h1 e h3
 ·have:x=y:=by omega
  subst this; exact Nat.le_refl _
theorem up_loop {R:Type} {B:Nat×List α→Nx (Nat×List α) R} {e:Nat}
 (hB:∀ k d,B (k,d)=bif decide ((k:Int) < (((e - 1):Nat):Int)) then .go ((k+1),((d.set k (gt d (k+1))).set (k+1) (gt d k))) else .out (k,d))
 (d:List α) (a:Nat) (hae:a+1≤e) (hb:e≤d.length) (N:Nat) (hN:e - a < N) :
 ∃ k d',bt B N (a,d)=.inl (k,d')∧Mrg d d' a e∧∀ x,gt d' x=if a≤x∧x+1 < e then gt d (x+1) else if x+1=e then gt d a else gt d x:=by
 obtain ⟨⟨k,d'⟩,h,h1,h2⟩:=jq (B:=B) (I:=fun s=>a≤s.1∧s.1+1≤e∧Mrg d s.2 a e∧∀ x,gt s.2 x=if a≤x∧x < s.1 then gt d (x+1) else if x=s.1 then gt d a else gt d x)
  (Q:=fun s=>Mrg d s.2 a e∧∀ x,gt s.2 x=if a≤x∧x+1 < e then gt d (x+1) else if x+1=e then gt d a else gt d x) (μ:=fun s=>e - s.1) (fun ⟨k,d1⟩ ⟨h1,h2,h3,h4⟩=>by
    dsimp only at h1 h2 h3 h4 ⊢
    have hl:=h3.len
    by_cases hk:k+1 < e
    ·refine .inl ⟨(k+1,sd d1 k (k+1)),by rw [hB,decide_eq_true (by omega:(k:Int) < (((e - 1):Nat):Int))]; rfl,⟨by dsimp only; omega,by dsimp only; omega,h3.trans (Mrg.swap h1 og og og og og),fun x=>?_⟩,by dsimp only; omega⟩
     dsimp only
     rw [lM og og,h4,h4,h4]
     repeat' split
     all_goals first | rfl | (exfalso; omega) | (congr 1 <;> omega)
    ·refine .inr ⟨(k,d1),by rw [hB,decide_eq_false (by omega:¬ (k:Int) < (((e - 1):Nat):Int))]; rfl,h3,fun x=>?_⟩
     dsimp only
     rw [h4]
     repeat' split
     all_goals first | rfl | (exfalso; omega) | (congr 1 <;> omega)) N (a,d) ⟨Nat.le_refl _,hae,Mrg.refl _ _ _,fun x=>by
      dsimp only
      repeat' split
      all_goals first | rfl | (exfalso; omega) | (congr 1 <;> omega)⟩ hN
 exact ⟨k,d',h,h1,h2⟩
theorem yq {R:Type} {B:Nat×List α→Nx (Nat×List α) R} {e:Nat}
 (hB:∀ k d,B (k,d)=bif decide ((k:Int)>(e:Int)) then .go ((k - 1),((d.set k (gt d (k - 1))).set (k - 1) (gt d k))) else .out (k,d))
 (d:List α) (m:Nat) (hem:e≤m) (hb:m < d.length) (N:Nat) (hN:m < N) :
 ∃ k d',bt B N (m,d)=.inl (k,d')∧Mrg d d' e (m+1)∧∀ x,gt d' x=if e < x∧x≤m then gt d (x - 1) else if x=e then gt d m else gt d x:=by
 obtain ⟨⟨k,d'⟩,h,h1,h2⟩:=jq (B:=B) (I:=fun s=>e≤s.1∧s.1≤m∧Mrg d s.2 e (m+1)∧∀ x,gt s.2 x=if s.1 < x∧x≤m then gt d (x - 1) else if x=s.1 then gt d m else gt d x)
  (Q:=fun s=>Mrg d s.2 e (m+1)∧∀ x,gt s.2 x=if e < x∧x≤m then gt d (x - 1) else if x=e then gt d m else gt d x) (μ:=fun s=>s.1) (fun ⟨k,d1⟩ ⟨h1,h2,h3,h4⟩=>by
    dsimp only at h1 h2 h3 h4 ⊢
    have hl:=h3.len
    by_cases hk:e < k
    ·refine .inl ⟨(k - 1,sd d1 k (k - 1)),by rw [hB,decide_eq_true (by omega:(k:Int)>(e:Int))]; rfl,⟨by dsimp only; omega,by dsimp only; omega,h3.trans (Mrg.swap h1 og og og og og),fun x=>?_⟩,by dsimp only; omega⟩
     dsimp only
     rw [lM og og,h4,h4,h4]
     repeat' split
     all_goals first | rfl | (exfalso; omega) | (congr 1 <;> omega)
    ·refine .inr ⟨(k,d1),by rw [hB,decide_eq_false (by omega:¬ (k:Int)>(e:Int))]; rfl,h3,fun x=>?_⟩
     dsimp only
     rw [h4]
     repeat' split
     all_goals first | rfl | (exfalso; omega) | (congr 1 <;> omega)) N (m,d) ⟨hem,Nat.le_refl _,Mrg.refl _ _ _,fun x=>by
      dsimp only
      repeat' split
      all_goals first | rfl | (exfalso; omega) | (congr 1 <;> omega)⟩ hN
 exact ⟨k,d',h,h1,h2⟩
variable {c:α→α→Int} {K:α→Nat} {S:α→Prop}
def r5 (K:α→Nat) (S:α→Prop) (f:List α→Nat→Nat→Nat→List α) (n:Nat):Prop :=
 ∀ d a m b,a < m→m < b→b≤d.length→b - a < n→(∀ x∈d,S x)→Srtd K d a m→Srtd K d m b→Mrg d (f d a m b) a b∧Srtd K (f d a m b) a b
theorem iG {d d':List α} {a b:Nat} (h:Mrg d d' a b) (hS:∀ x∈d,S x):∀ x∈d',S x:=fun x hx=>hS x (h.perm.mem_iff.1 hx)
theorem vC (hc:∀ x y,S x→S y→(c x y < 0↔K x < K y)) {f:List α→Nat→Nat→Nat→List α} {d:List α} {a m b:Nat} (ham:m=a+1) (hmb:m < b) (hb:b≤d.length)
 (hS:∀ x∈d,S x) (h2:Srtd K d m b):Mrg d (tI c f d a m b) a b∧Srtd K (tI c f d a m b) a b:=by
 have hs:∀ i,i < d.length→S (gt d i):=fun i hi=>hS _ (j9 hi)
 obtain ⟨i,e,i1,i2,hlo,hhi⟩:=un (B:=fun s:Nat×Nat=>wQ c f d a m b s.1 s.2) (p:=fun h=>decide (c (gt d h) (gt d a) < 0)) (lo:=m) (hi:=b) (fun i j=>rfl)
  (fun x y hx hxy hy hp=>by
    have hp':=(hc _ _ (hs y og) (hs a og)).1 (of_decide_eq_true hp)
    exact decide_eq_true ((hc _ _ (hs x og) (hs a og)).2 (Nat.lt_of_le_of_lt (h2.le hx hxy hy) hp'))) og (b - m+1) og
 obtain ⟨k,d',e2,hm,hg⟩:=up_loop (B:=fun s:Nat×List α=>wP c f d a m b i i s.1 s.2) (e:=i) (fun k d=>rfl) d a og og ((i - a)+1) og
 have he:tI c f d a m b=d':=by
  unfold tI
  rw [show (((m - a:Nat):Int) == ((1:Nat):Int))=true from beq_iff_eq.2 og]
  refine (ir e).trans ?_
  exact ir e2
 rw [he]
 refine ⟨hm.mono og og,fun x y hx hxy hy=>?_⟩
 have lo:∀ x,m≤x→x < i→K (gt d x) < K (gt d a):=fun x h1 h2=>(hc _ _ (hs x og) (hs a og)).1 (of_decide_eq_true (hlo x h1 h2))
 have hi:∀ x,i≤x→x < b→K (gt d a)≤K (gt d x):=fun x h1 h2=>by
  have:=of_decide_eq_false (hhi x h1 h2)
  have q:=mt (hc _ _ (hs x og) (hs a og)).2 this
  omega
 rw [hg,hg]
 by_cases h1:y+1 < i
 ·rw [if_pos ⟨hx,by omega⟩,if_pos ⟨by omega,h1⟩]; exact h2 _ _ og og og
 ·by_cases h3:y+1=i
  ·rw [if_pos ⟨hx,by omega⟩,if_neg og,if_pos h3]; exact Nat.le_of_lt (lo _ og og)
  ·rw [if_neg (c:=a≤y∧y+1 < i) og,if_neg h3]
   by_cases h4:x+1 < i
   ·rw [if_pos ⟨hx,h4⟩]; exact h2 _ _ og og hy
   ·rw [if_neg og]
    by_cases h5:x+1=i
    ·rw [if_pos h5]; exact hi _ og hy
    ·rw [if_neg h5]; exact h2 _ _ og hxy hy
theorem vB (hc:∀ x y,S x→S y→(c x y < 0↔K x < K y)) {f:List α→Nat→Nat→Nat→List α} {d:List α} {a m b:Nat} (ham:a+1 < m) (hmb:b=m+1) (hb:b≤d.length)
 (hS:∀ x∈d,S x) (h1:Srtd K d a m):Mrg d (tI c f d a m b) a b∧Srtd K (tI c f d a m b) a b:=by
 have hs:∀ i,i < d.length→S (gt d i):=fun i hi=>hS _ (j9 hi)
 obtain ⟨i,e,i1,i2,hlo,hhi⟩:=un (B:=fun s:Nat×Nat=>wO c f d a m b s.1 s.2) (p:=fun h=>!decide (c (gt d m) (gt d h) < 0)) (lo:=a) (hi:=m) (fun i j=>rfl)
  (fun x y hx hxy hy hp=>by
    have hp':=mt (hc _ _ (hs m og) (hs y og)).2 (by simpa using hp)
    have hq:¬ c (gt d m) (gt d x) < 0:=fun hq=>by
     have:=(hc _ _ (hs m og) (hs x og)).1 hq
     have:=h1.le hx hxy hy
     omega
    simpa using hq) og (m - a+1) og
 obtain ⟨k,d',e2,hm,hg⟩:=yq (B:=fun s:Nat×List α=>wN c f d a m b i i s.1 s.2) (e:=i) (fun k d=>rfl) d m og og (m+1) og
 have he:tI c f d a m b=d':=by
  unfold tI
  rw [show (((m - a:Nat):Int) == ((1:Nat):Int))=false from beq_eq_false_iff_ne.2 og,show (((b - m:Nat):Int) == ((1:Nat):Int))=true from beq_iff_eq.2 og]
  refine (ir e).trans ?_
  exact ir e2
 rw [he]
 refine ⟨hm.mono og og,fun x y hx hxy hy=>?_⟩
 have lo:∀ x,a≤x→x < i→K (gt d x)≤K (gt d m):=fun x p q=>by
  have:=hlo x p q
  have q:=mt (hc _ _ (hs m og) (hs x og)).2 (by simpa using this)
  omega
 have hi:∀ x,i≤x→x < m→K (gt d m) < K (gt d x):=fun x p q=>by
  have:=hhi x p q
  exact (hc _ _ (hs m og) (hs x og)).1 (by simpa using this)
 rw [hg,hg]
 by_cases h3:i < y
 ·rw [if_pos (c:=i < y∧y≤m) ⟨h3,by omega⟩]
  by_cases h4:i < x
  ·rw [if_pos ⟨h4,by omega⟩]; exact h1 _ _ og og og
  ·rw [if_neg og]
   by_cases h5:x=i
   ·rw [if_pos h5]; exact Nat.le_of_lt (hi _ og og)
   ·rw [if_neg h5]; exact h1 _ _ hx og og
 ·rw [if_neg (c:=i < y∧y≤m) og,if_neg (c:=i < x∧x≤m) og,if_neg (c:=x=i) og]
  by_cases h5:y=i
  ·rw [if_pos h5]; exact lo _ hx og
  ·rw [if_neg h5]; exact h1 _ _ hx hxy og
end
end Go.Sx
namespace Go.Sx
section
variable {α:Type} [Inhabited α] {c:α→α→Int} {K:α→Nat} {S:α→Prop}
theorem qF (hc:∀ x y,S x→S y→(c x y < 0↔K x < K y)) {f:List α→Nat→Nat→Nat→List α} {d:List α} {a m b mid lo hi:Nat} (hmid:(a+b) / 2=mid) (hb:b≤d.length)
 (hS:∀ x∈d,S x) (h1:Srtd K d a m) (h2:Srtd K d m b) (hlo:a≤lo) (hlob:mid+m≤lo+b) (him:hi≤m) (hi2:hi≤mid) (hle:lo≤hi) (hmb:m≤b) (N:Nat) (hN:hi - lo < N) :
 ∃ s,bt (fun s=>nX c f d a m b s.1 s.2) N (lo,hi)=.inl (s,s)∧lo≤s∧s≤hi∧(∀ x,lo≤x→x < s→K (gt d x)≤K (gt d (mid+m - 1 - x)))∧(∀ x,s≤x→x < hi→K (gt d (mid+m - 1 - x)) < K (gt d x)):=by
 have hs:∀ i,i < d.length→S (gt d i):=fun i hi=>hS _ (j9 hi)
 subst hmid
 obtain ⟨s,e,s1,s2,f1,f2⟩:=un (B:=fun s:Nat×Nat=>nX c f d a m b s.1 s.2) (p:=fun h=>!decide (c (gt d ((a+b) / 2+m - 1 - h)) (gt d h) < 0)) (lo:=lo) (hi:=hi) (fun i j=>rfl)
  (fun x y hx hxy hy hp=>by
    have hp':=mt (hc _ _ (hs ((a+b) / 2+m - 1 - y) og) (hs y og)).2 (by simpa using hp)
    have hq:¬ c (gt d ((a+b) / 2+m - 1 - x)) (gt d x) < 0:=fun hq=>by
     have q1:=(hc _ _ (hs ((a+b) / 2+m - 1 - x) og) (hs x og)).1 hq
     have q2:=h1.le (x:=x) (y:=y) og hxy og
     have q3:=h2.le (x:=(a+b) / 2+m - 1 - y) (y:=(a+b) / 2+m - 1 - x) og og og
     omega
    simpa using hq) hle N hN
 refine ⟨s,e,s1,s2,fun x p q=>?_,fun x p q=>?_⟩
 ·have:=f1 x p q
  have r:=mt (hc _ _ (hs ((a+b) / 2+m - 1 - x) og) (hs x og)).2 (by simpa using this)
  omega
 ·have:=f2 x p q
  exact (hc _ _ (hs ((a+b) / 2+m - 1 - x) og) (hs x og)).1 (by simpa using this)
theorem ux {f:List α→Nat→Nat→Nat→List α} {n:Nat} (hf:r5 K S f n) {d:List α} {a m b mid s lo hi:Nat} (hmid:(a+b) / 2=mid) (ham:a < m) (hmb:m < b) (hab:a+2≤b) (hb:b≤d.length) (hn:b - a≤n)
 (hS:∀ x∈d,S x) (h1:Srtd K d a m) (h2:Srtd K d m b) (hlo:a≤lo) (hlob:mid+m≤lo+b) (him:hi≤m) (hi2:hi≤mid) (s1:lo≤s) (s2:s≤hi)
 (el:lo=a∨lo+b=mid+m) (eh:hi=m∨hi=mid)
 (f1:∀ x,lo≤x→x < s→K (gt d x)≤K (gt d (mid+m - 1 - x))) (f2:∀ x,s≤x→x < hi→K (gt d (mid+m - 1 - x)) < K (gt d x)) :
 Mrg d (j0 c f d a m b s s) a b∧Srtd K (j0 c f d a m b s s) a b:=by
 obtain ⟨en,hen⟩:∃ q,mid+m - s=q:=⟨_,rfl⟩
 have he:j0 c f d a m b s s=(bif (decide ((mid:Int) < (en:Int)) && decide ((en:Int) < (b:Int))) then
  f (bif (decide ((a:Int) < (s:Int)) && decide ((s:Int) < (mid:Int))) then f (bif (decide ((s:Int) < (m:Int)) && decide ((m:Int) < (en:Int))) then rot d s m en else d) a s mid
   else (bif (decide ((s:Int) < (m:Int)) && decide ((m:Int) < (en:Int))) then rot d s m en else d)) mid en b
  else (bif (decide ((a:Int) < (s:Int)) && decide ((s:Int) < (mid:Int))) then f (bif (decide ((s:Int) < (m:Int)) && decide ((m:Int) < (en:Int))) then rot d s m en else d) a s mid
   else (bif (decide ((s:Int) < (m:Int)) && decide ((m:Int) < (en:Int))) then rot d s m en else d))):=by
  unfold j0
  rw [hmid,hen]
  generalize (decide ((s:Int) < (m:Int)) && decide ((m:Int) < (en:Int)))=B1
  generalize (decide ((a:Int) < (s:Int)) && decide ((s:Int) < (mid:Int)))=B2
  generalize (decide ((mid:Int) < (en:Int)) && decide ((en:Int) < (b:Int)))=B3
  cases B1 <;> cases B2 <;> cases B3 <;> rfl
 rw [he]
 obtain ⟨d1,e1,m1,g1⟩:∃ d1,(bif (decide ((s:Int) < (m:Int)) && decide ((m:Int) < (en:Int))) then rot d s m en else d)=d1∧Mrg d d1 a b∧∀ k,gt d1 k=RO (gt d) s m en k:=by
  by_cases h:s < m∧m < en
  ·obtain ⟨p,q⟩:=rot_spec (d:=d) (a:=s) (m:=m) (b:=en) h.1 h.2 og
   exact ⟨rot d s m en,by rw [decide_eq_true (by omega:(s:Int) < (m:Int)),decide_eq_true (by omega:(m:Int) < (en:Int))]; rfl,p.mono og og,q⟩
  ·refine ⟨d,?_,Mrg.refl _ _ _,fun k=>?_⟩
   ·by_cases h3:s < m
    ·rw [decide_eq_false (by omega:¬ (m:Int) < (en:Int)),Bool.and_false]; rfl
    ·rw [decide_eq_false (by omega:¬ (s:Int) < (m:Int)),Bool.false_and]; rfl
   ·unfold RO
    repeat' split
    all_goals first | rfl | (exfalso; omega) | (congr 1 <;> omega)
 rw [e1]
 have hS1:=iG m1 hS
 have hl1:=m1.len
 have cross:∀ x y,a≤x→x < mid→mid≤y→y < b→K (gt d1 x)≤K (gt d1 y):=by
  intro x y hx hx2 hy hy2
  rw [g1,g1]
  by_cases c1:x < s
  ·rw [show RO (gt d) s m en x=gt d x by unfold RO; rw [if_neg og,if_neg og]]
   by_cases c2:y < en
   ·rw [show RO (gt d) s m en y=gt d (y - (en - m)) by unfold RO; rw [if_neg og,if_pos og]]
    exact h1 _ _ hx og og
   ·rw [show RO (gt d) s m en y=gt d y by unfold RO; rw [if_neg og,if_neg og]]
    have q1:=h1.le (x:=x) (y:=s - 1) hx og og
    have q2:=f1 (s - 1) og og
    rw [show mid+m - 1 - (s - 1)=en by omega] at q2
    have q3:=h2.le (x:=en) (y:=y) og og hy2
    omega
  ·rw [show RO (gt d) s m en x=gt d (x+(m - s)) by unfold RO; rw [if_pos og]]
   by_cases c2:y < en
   ·rw [show RO (gt d) s m en y=gt d (y - (en - m)) by unfold RO; rw [if_neg og,if_pos og]]
    have q1:=h2.le (x:=x+(m - s)) (y:=en - 1) og og og
    have q2:=f2 s (Nat.le_refl _) og
    rw [show mid+m - 1 - s=en - 1 by omega] at q2
    have q3:=h1.le (x:=s) (y:=y - (en - m)) og og og
    omega
   ·rw [show RO (gt d) s m en y=gt d y by unfold RO; rw [if_neg og,if_neg og]]
    exact h2 _ _ og og hy2
 have L1:Srtd K d1 a s:=fun x y hx hxy hy=>by
  rw [g1,g1,show RO (gt d) s m en x=gt d x by unfold RO; rw [if_neg og,if_neg og],show RO (gt d) s m en y=gt d y by unfold RO; rw [if_neg og,if_neg og]]
  exact h1 _ _ hx hxy og
 have L2:Srtd K d1 s mid:=fun x y hx hxy hy=>by
  rw [g1,g1,show RO (gt d) s m en x=gt d (x+(m - s)) by unfold RO; rw [if_pos og],show RO (gt d) s m en y=gt d (y+(m - s)) by unfold RO; rw [if_pos og]]
  exact h2 _ _ og og og
 have R1:Srtd K d1 mid en:=fun x y hx hxy hy=>by
  rw [g1,g1,show RO (gt d) s m en x=gt d (x - (en - m)) by unfold RO; rw [if_neg og,if_pos og],show RO (gt d) s m en y=gt d (y - (en - m)) by unfold RO; rw [if_neg og,if_pos og]]
  exact h1 _ _ og og og
 have R2:Srtd K d1 en b:=fun x y hx hxy hy=>by
  rw [g1,g1,show RO (gt d) s m en x=gt d x by unfold RO; rw [if_neg og,if_neg og],show RO (gt d) s m en y=gt d y by unfold RO; rw [if_neg og,if_neg og]]
  exact h2 _ _ og hxy hy
 obtain ⟨d2,e2,m2,g2⟩:∃ d2,(bif (decide ((a:Int) < (s:Int)) && decide ((s:Int) < (mid:Int))) then f d1 a s mid else d1)=d2∧Mrg d1 d2 a mid∧Srtd K d2 a mid:=by
  by_cases h:a < s∧s < mid
  ·obtain ⟨p,q⟩:=hf d1 a s mid h.1 h.2 og og hS1 L1 L2
   exact ⟨f d1 a s mid,by rw [decide_eq_true (by omega:(a:Int) < (s:Int)),decide_eq_true (by omega:(s:Int) < (mid:Int))]; rfl,p,q⟩
  ·refine ⟨d1,?_,Mrg.refl _ _ _,?_⟩
   ·by_cases h3:a < s
    ·rw [decide_eq_false (by omega:¬ (s:Int) < (mid:Int)),Bool.and_false]; rfl
    ·rw [decide_eq_false (by omega:¬ (a:Int) < (s:Int)),Bool.false_and]; rfl
   ·by_cases h3:a < s
    ·exact fun x y hx hxy hy=>L1 x y hx hxy og
    ·exact fun x y hx hxy hy=>L2 x y og hxy hy
 rw [e2]
 have hS2:=iG m2 hS1
 have hl2:=m2.len
 have R1':Srtd K d2 mid en:=fun x y hx hxy hy=>by rw [m2.out x og,m2.out y og]; exact R1 x y hx hxy hy
 have R2':Srtd K d2 en b:=fun x y hx hxy hy=>by rw [m2.out x og,m2.out y og]; exact R2 x y hx hxy hy
 obtain ⟨d3,e3,m3,g3⟩:∃ d3,(bif (decide ((mid:Int) < (en:Int)) && decide ((en:Int) < (b:Int))) then f d2 mid en b else d2)=d3∧Mrg d2 d3 mid b∧Srtd K d3 mid b:=by
  by_cases h:mid < en∧en < b
  ·obtain ⟨p,q⟩:=hf d2 mid en b h.1 h.2 og og hS2 R1' R2'
   exact ⟨f d2 mid en b,by rw [decide_eq_true (by omega:(mid:Int) < (en:Int)),decide_eq_true (by omega:(en:Int) < (b:Int))]; rfl,p,q⟩
  ·refine ⟨d2,?_,Mrg.refl _ _ _,?_⟩
   ·by_cases h3:mid < en
    ·rw [decide_eq_false (by omega:¬ (en:Int) < (b:Int)),Bool.and_false]; rfl
    ·rw [decide_eq_false (by omega:¬ (mid:Int) < (en:Int)),Bool.false_and]; rfl
   ·by_cases h3:mid < en
    ·exact fun x y hx hxy hy=>R1' x y hx hxy og
    ·exact fun x y hx hxy hy=>R2' x y og hxy hy
 rw [e3]
 refine ⟨(m1.trans (m2.mono (Nat.le_refl _) og)).trans (m3.mono og (Nat.le_refl _)),fun x y hx hxy hy=>?_⟩
 by_cases hy2:y < mid
 ·rw [m3.out x og,m3.out y og]; exact g2 x y hx hxy hy2
 ·by_cases hx2:mid≤x
  ·exact g3 x y hx2 hxy hy
  ·obtain ⟨x',p1,p2,p3⟩:=m2.inn x hx og
   obtain ⟨y',q1,q2,q3⟩:=m3.inn y og hy
   rw [m3.out x og,p3,q3,m2.out y' og]
   exact cross x' y' p1 p2 q1 q2
theorem sym_ok (hc:∀ x y,S x→S y→(c x y < 0↔K x < K y)) {f:List α→Nat→Nat→Nat→List α} {n:Nat} (hf:r5 K S f n):r5 K S (tI c f) (n+1):=by
 intro d a m b ham hmb hb hn hS h1 h2
 by_cases c1:m=a+1
 ·exact vC hc c1 hmb hb hS h2
 ·by_cases c2:b=m+1
  ·exact vB hc og c2 hb hS h1
  ·have e0:tI c f d a m b=bif (decide ((m:Int)>((((a+b) / 2:Nat)):Int))) then
    fin (bt (fun s=>nX c f d a m b s.1 s.2) (((a+b) / 2) - ((((a+b) / 2)+m) - b)+1) (((((a+b) / 2)+m) - b),((a+b) / 2))) (fun s=>j0 c f d a m b s.1 s.2) (fun r=>r)
    else fin (bt (fun s=>nX c f d a m b s.1 s.2) (m - a+1) (a,m)) (fun s=>j0 c f d a m b s.1 s.2) (fun r=>r):=by
    unfold tI
    rw [show (((m - a:Nat):Int) == ((1:Nat):Int))=false from beq_eq_false_iff_ne.2 og,show (((b - m:Nat):Int) == ((1:Nat):Int))=false from beq_eq_false_iff_ne.2 og]
    rfl
   have hk:∀ s:Nat,j0 c f d a m b s s=j0 c f d a m b s s:=fun _=>rfl
   by_cases c3:(a+b) / 2 < m
   ·obtain ⟨s,e,s1,s2,f1,f2⟩:=qF (c:=c) (K:=K) (S:=S) hc (f:=f) (d:=d) (a:=a) (m:=m) (b:=b) (lo:=(a+b) / 2+m - b) (hi:=(a+b) / 2) rfl hb hS h1 h2 og og og og og og (((a+b) / 2) - ((((a+b) / 2)+m) - b)+1) og
    have e1:tI c f d a m b=j0 c f d a m b s s:=by
     rw [e0,decide_eq_true (by omega:(m:Int)>((((a+b) / 2:Nat)):Int))]
     exact ir e
    rw [e1]
    exact ux hf rfl ham hmb og hb og hS h1 h2 (lo:=(a+b) / 2+m - b) (hi:=(a+b) / 2) og og og og s1 s2 (.inr og) (.inr rfl) f1 f2
   ·obtain ⟨s,e,s1,s2,f1,f2⟩:=qF (c:=c) (K:=K) (S:=S) hc (f:=f) (d:=d) (a:=a) (m:=m) (b:=b) (lo:=a) (hi:=m) rfl hb hS h1 h2 og og og og og og (m - a+1) og
    have e1:tI c f d a m b=j0 c f d a m b s s:=by
     rw [e0,decide_eq_false (by omega:¬ (m:Int)>((((a+b) / 2:Nat)):Int))]
     exact ir e
    rw [e1]
    exact ux hf rfl ham hmb og hb og hS h1 h2 (lo:=a) (hi:=m) og og og og s1 s2 (.inl rfl) (.inl rfl) f1 f2
theorem wL (hc:∀ x y,S x→S y→(c x y < 0↔K x < K y)):∀ n,r5 K S (symN c n) n
 | 0=>fun d a m b _ _ _ h=>absurd h (Nat.not_lt_zero _)
 | n+1=>sym_ok hc (wL hc n)
theorem uy (hc:∀ x y,S x→S y→(c x y < 0↔K x < K y)) {d:List α} {a m b:Nat} (ham:a < m) (hmb:m < b) (hb:b≤d.length) (hS:∀ x∈d,S x) (h1:Srtd K d a m) (h2:Srtd K d m b) :
 Mrg d (sym c d a m b) a b∧Srtd K (sym c d a m b) a b:=wL hc (b - a+1) d a m b ham hmb hb og hS h1 h2
end
end Go.Sx
namespace Go.Sx
section
variable {α:Type} [Inhabited α] {c:α→α→Int} {K:α→Nat} {S:α→Prop}
theorem ins_one (hc:∀ x y,S x→S y→(c x y < 0↔K x < K y)) {d:List α} {a i:Nat} (hai:a < i) (hi:i < d.length) (hS:∀ x∈d,S x) (h1:Srtd K d a i) :
 ∃ j d',bt (fun s:Nat×List α=>wz c a s.1 s.2) (i+1) (i,d)=.inl (j,d')∧Mrg d d' a (i+1)∧Srtd K d' a (i+1):=by
 obtain ⟨⟨j,d'⟩,e,h⟩:=jq (B:=fun s:Nat×List α=>wz c a s.1 s.2) (I:=fun s=>a≤s.1∧s.1≤i∧Mrg d s.2 a (i+1)∧∀ x y,a≤x→x < y→y≤i→y≠s.1→K (gt s.2 x)≤K (gt s.2 y))
  (Q:=fun s=>Mrg d s.2 a (i+1)∧Srtd K s.2 a (i+1)) (μ:=fun s=>s.1) (fun ⟨j,d1⟩ ⟨h1,h2,h3,h4⟩=>by
    dsimp only at h1 h2 h3 h4 ⊢
    have hl:=h3.len
    have hS1:=iG h3 hS
    have hs:∀ i,i < d1.length→S (gt d1 i):=fun i hi=>hS1 _ (j9 hi)
    by_cases hj:a < j
    ·cases hp:decide (c (gt d1 j) (gt d1 (j - 1)) < 0) with
     | true =>
      have hk:=(hc _ _ (hs j og) (hs (j - 1) og)).1 (of_decide_eq_true hp)
      refine .inl ⟨(j - 1,sd d1 j (j - 1)),?_,⟨by dsimp only; omega,by dsimp only; omega,h3.trans (Mrg.swap h1 og og og og og),fun x y hx hxy hy hyj=>?_⟩,by dsimp only; omega⟩
      ·unfold wz; rw [decide_eq_true (by omega:(j:Int)>(a:Int)),hp]; rfl
      ·dsimp only at hyj ⊢
       rw [lM og og,lM og og,if_neg (c:=y=j - 1) hyj]
       by_cases c1:y=j
       ·rw [if_pos (c:=y=j) c1]
        by_cases c2:x=j - 1
        ·rw [if_pos c2]; exact Nat.le_of_lt hk
        ·rw [if_neg c2,if_neg og]; exact h4 _ _ hx og og og
       ·rw [if_neg (c:=y=j) c1]
        by_cases c2:x=j - 1
        ·rw [if_pos c2]; exact h4 _ _ h1 og hy c1
        ·rw [if_neg c2]
         by_cases c3:x=j
         ·rw [if_pos c3]; exact h4 _ _ og og hy c1
         ·rw [if_neg c3]; exact h4 _ _ hx hxy hy c1
     | false =>
      have hk:=mt (hc _ _ (hs j og) (hs (j - 1) og)).2 (of_decide_eq_false hp)
      refine .inr ⟨(j,d1),?_,h3,fun x y hx hxy hy=>?_⟩
      ·unfold wz; rw [hp,Bool.and_false]; rfl
      ·dsimp only
       by_cases c1:y=j
       ·subst c1
        rcases Nat.lt_or_ge x (y - 1) with c2 | c2
        ·have:=h4 x (y - 1) hx c2 og og; omega
        ·rw [show x=y - 1 by omega]; omega
       ·exact h4 _ _ hx hxy og c1
    ·refine .inr ⟨(j,d1),?_,h3,fun x y hx hxy hy=>?_⟩
     ·unfold wz; rw [decide_eq_false (by omega:¬ (j:Int)>(a:Int)),Bool.false_and]; rfl
     ·exact h4 _ _ hx hxy og og) (i+1) (i,d) ⟨by dsimp only; omega,Nat.le_refl _,Mrg.refl _ _ _,fun x y hx hxy hy hyi=>h1 x y hx hxy (by dsimp only at hyi; omega)⟩ (Nat.lt_succ_self _)
 exact ⟨j,d',e,h⟩
theorem u2 (hc:∀ x y,S x→S y→(c x y < 0↔K x < K y)) {d:List α} {a b:Nat} (hab:a≤b) (hb:b≤d.length) (hS:∀ x∈d,S x) :
 Mrg d (l6 c d a b) a b∧Srtd K (l6 c d a b) a b:=by
 obtain ⟨⟨i,d'⟩,e,h⟩:=jq (B:=fun s:Nat×List α=>isB1 c a b s.1 s.2) (I:=fun s=>a < s.1∧Mrg d s.2 a b∧Srtd K s.2 a s.1)
  (Q:=fun s=>Mrg d s.2 a b∧Srtd K s.2 a b) (μ:=fun s=>b - s.1) (fun ⟨i,d1⟩ ⟨h1,h2,h3⟩=>by
    dsimp only at h1 h2 h3 ⊢
    have hl:=h2.len
    by_cases hi:i < b
    ·obtain ⟨j,d2,e,q1,q2⟩:=ins_one hc h1 og (iG h2 hS) h3
     refine .inl ⟨(i+1,d2),?_,⟨by dsimp only; omega,h2.trans (q1.mono (Nat.le_refl _) og),q2⟩,by dsimp only; omega⟩
     unfold isB1
     rw [decide_eq_true (by omega:(i:Int) < (b:Int))]
     exact ir e
    ·refine .inr ⟨(i,d1),?_,h2,fun x y hx hxy hy=>h3 x y hx hxy og⟩
     unfold isB1
     rw [decide_eq_false (by omega:¬ (i:Int) < (b:Int))]; rfl) ((b+1 - (a+1))+1) (a+1,d) ⟨Nat.lt_succ_self _,Mrg.refl _ _ _,fun x y hx hxy hy=>by dsimp only at hy; omega⟩ (by dsimp only; omega)
 have e2:l6 c d a b=d':=ir e
 rw [e2]; exact h
theorem Srtd.keep {d d':List α} {a b x y:Nat} (h:Srtd K d x y) (hm:Mrg d d' a b) (hd:y≤a∨b≤x):Srtd K d' x y:=fun p q h1 h2 h3=>by
 rw [hm.out p og,hm.out q og]; exact h p q h1 h2 h3
def BS (K:α→Nat) (w:Nat) (d:List α) (n:Nat):Prop:=∀ p,Srtd K d (w*p) (min (w*p+w) n)
theorem wT (hc:∀ x y,S x→S y→(c x y < 0↔K x < K y)) {d0 dz d:List α} {n a0 b0 w:Nat} (hw:0 < w) (hn:d.length=n) (hS:∀ x∈d,S x) (hB:BS K w d n) :
 ∃ d',fin (bt (fun s=>se c d0 n a0 b0 dz w d s.1 s.2.1 s.2.2) (n - 0+1) (0,(2*w),d)) (fun s=>uA c d0 n a0 b0 dz w d s.1 s.2.1 s.2.2) (fun r=>.ret r)=.go ((w*2),d')∧Mrg d d' 0 n∧BS K (w*2) d' n:=by
 obtain ⟨⟨a,b,d1⟩,e,q,h1,h2,h3,h4,h5,h6⟩:=jq (B:=fun s:Nat×Nat×List α=>se c d0 n a0 b0 dz w d s.1 s.2.1 s.2.2)
  (I:=fun s=>∃ q,s.1=w*2*q∧s.2.1=s.1+2*w∧s.1≤n∧Mrg d s.2.2 0 n∧(∀ p,p < q→Srtd K s.2.2 (w*2*p) (w*2*p+w*2))∧∀ p,2*q≤p→Srtd K s.2.2 (w*p) (min (w*p+w) n))
  (Q:=fun s=>∃ q,s.1=w*2*q∧n < s.1+2*w∧s.1≤n∧Mrg d s.2.2 0 n∧(∀ p,p < q→Srtd K s.2.2 (w*2*p) (w*2*p+w*2))∧∀ p,2*q≤p→Srtd K s.2.2 (w*p) (min (w*p+w) n))
  (μ:=fun s=>n - s.1) (fun ⟨a,b,d1⟩ ⟨q,h1,h2,h3,h4,h5,h6⟩=>by
    dsimp only at h1 h2 h3 h4 h5 h6 ⊢
    subst h2
    have hl:=h4.len
    have ea:w*(2*q)=a:=by rw [h1,Nat.mul_assoc]
    have ea1:w*(2*q+1)=a+w:=by rw [Nat.mul_succ,ea]
    by_cases hb:a+2*w≤n
    ·have r1:=h6 (2*q) (Nat.le_refl _)
     have r2:=h6 (2*q+1) og
     rw [ea,Nat.min_eq_left og] at r1
     rw [ea1,Nat.min_eq_left og] at r2
     obtain ⟨m1,s1⟩:=uy hc (d:=d1) (a:=a) (m:=a+w) (b:=a+2*w) og og og (iG h4 hS) r1 (by rw [show a+2*w=a+w+w by omega]; exact r2)
     refine .inl ⟨(a+2*w,a+2*w+2*w,sym c d1 a (a+w) (a+2*w)),?_,⟨q+1,?_,rfl,hb,h4.trans (m1.mono og og),fun p hp=>?_,fun p hp=>?_⟩,by dsimp only; omega⟩
     ·unfold se
      rw [decide_eq_true (by omega:((a+2*w:Nat):Int)≤(n:Int))]; rfl
     ·dsimp only; rw [Nat.mul_succ,← h1]; omega
     ·rcases Nat.lt_or_ge p q with c1 | c1
      ·refine (h5 p c1).keep m1 (.inl ?_)
       have:=Nat.mul_le_mul_left (w*2) (show p+1≤q by omega)
       rw [Nat.mul_succ,← h1] at this; exact this
      ·have:p=q:=by omega
       subst this
       dsimp only
       rw [← h1,show a+w*2=a+2*w by omega]; exact s1
     ·refine (h6 p og).keep m1 (.inr ?_)
      have:=Nat.mul_le_mul_left w (show 2*q+1+1≤p by omega)
      rw [Nat.mul_succ,ea1] at this; omega
    ·refine .inr ⟨(a,a+2*w,d1),?_,q,h1,by dsimp only; omega,h3,h4,h5,h6⟩
     unfold se
     rw [decide_eq_false (by omega:¬ ((a+2*w:Nat):Int)≤(n:Int))]; rfl) (n - 0+1) (0,2*w,d) ⟨0,rfl,by dsimp only; omega,Nat.zero_le _,Mrg.refl _ _ _,fun p hp=>absurd hp (Nat.not_lt_zero _),fun p _=>hB p⟩ (by dsimp only; omega)
 dsimp only at h1 h2 h3 h4 h5 h6
 have hl:=h4.len
 have ea:w*(2*q)=a:=by rw [h1,Nat.mul_assoc]
 have ea1:w*(2*q+1)=a+w:=by rw [Nat.mul_succ,ea]
 have r1:=h6 (2*q) (Nat.le_refl _)
 have r2:=h6 (2*q+1) og
 rw [ea] at r1
 rw [ea1] at r2
 have fine:∀ d':List α,Mrg d1 d' a n→Srtd K d' a n→BS K (w*2) d' n:=fun d' hm hs p=>by
  rcases Nat.lt_trichotomy p q with c1 | c1 | c1
  ·have:=Nat.mul_le_mul_left (w*2) (show p+1≤q by omega)
   rw [Nat.mul_succ,← h1] at this
   rw [Nat.min_eq_left og]
   exact (h5 p c1).keep hm (.inl this)
  ·subst c1
   rw [← h1,Nat.min_eq_right og]; exact hs
  ·have:=Nat.mul_le_mul_left (w*2) (show q+1≤p by omega)
   rw [Nat.mul_succ,← h1] at this
   intro x y hx hxy hy
   rw [Nat.min_eq_right og] at hy; omega
 by_cases hb:a+w < n
 ·rw [Nat.min_eq_left og] at r1
  rw [Nat.min_eq_right og] at r2
  obtain ⟨m1,s1⟩:=uy hc (d:=d1) (a:=a) (m:=a+w) (b:=n) og hb og (iG h4 hS) r1 r2
  refine ⟨sym c d1 a (a+w) n,(ir e).trans ?_,h4.trans (m1.mono og (Nat.le_refl _)),fine _ m1 s1⟩
  dsimp only
  unfold uA
  rw [decide_eq_true (by omega:((a+w:Nat):Int) < (n:Int))]; rfl
 ·rw [Nat.min_eq_right og] at r1
  refine ⟨d1,(ir e).trans ?_,h4,fine _ (Mrg.refl _ _ _) r1⟩
  dsimp only
  unfold uA
  rw [decide_eq_false (by omega:¬ ((a+w:Nat):Int) < (n:Int))]; rfl
theorem stb_spec (hc:∀ x y,S x→S y→(c x y < 0↔K x < K y)) {d:List α} {n:Nat} (hn:d.length=n) (hS:∀ x∈d,S x):(stb c d n).Perm d∧Srtd K (stb c d n) 0 n:=by
 obtain ⟨⟨a,b,d1⟩,e,q,h1,h2,h3,h4,h5⟩:=jq (B:=fun s:Nat×Nat×List α=>uC c d n s.1 s.2.1 s.2.2)
  (I:=fun s=>∃ q,s.1=20*q∧s.2.1=s.1+20∧s.1≤n∧Mrg d s.2.2 0 n∧(∀ p,p < q→Srtd K s.2.2 (20*p) (20*p+20)))
  (Q:=fun s=>∃ q,s.1=20*q∧n < s.1+20∧s.1≤n∧Mrg d s.2.2 0 n∧(∀ p,p < q→Srtd K s.2.2 (20*p) (20*p+20)))
  (μ:=fun s=>n+20 - s.2.1) (fun ⟨a,b,d1⟩ ⟨q,h1,h2,h3,h4,h5⟩=>by
    dsimp only at h1 h2 h3 h4 h5 ⊢
    subst h2
    have hl:=h4.len
    by_cases hb:a+20≤n
    ·obtain ⟨m1,s1⟩:=u2 hc (d:=d1) (a:=a) (b:=a+20) og og (iG h4 hS)
     refine .inl ⟨(a+20,a+20+20,l6 c d1 a (a+20)),?_,⟨q+1,by dsimp only; omega,rfl,hb,h4.trans (m1.mono og og),fun p hp=>?_⟩,by dsimp only; omega⟩
     ·unfold uC
      rw [decide_eq_true (by omega:((a+20:Nat):Int)≤(n:Int))]; rfl
     ·rcases Nat.lt_or_ge p q with c1 | c1
      ·exact (h5 p c1).keep m1 (.inl og)
      ·have:p=q:=by omega
       subst this
       rw [← h1]; exact s1
    ·refine .inr ⟨(a,a+20,d1),?_,q,h1,by dsimp only; omega,h3,h4,h5⟩
     unfold uC
     rw [decide_eq_false (by omega:¬ ((a+20:Nat):Int)≤(n:Int))]; rfl) (n+20 - 20+1) (0,20,d) ⟨0,rfl,rfl,Nat.zero_le _,Mrg.refl _ _ _,fun p hp=>absurd hp (Nat.not_lt_zero _)⟩ (by dsimp only; omega)
 dsimp only at h1 h2 h3 h4 h5
 have hl:=h4.len
 obtain ⟨m1,s1⟩:=u2 hc (d:=d1) (a:=a) (b:=n) h3 og (iG h4 hS)
 have hB:BS K 20 (l6 c d1 a n) n:=fun p=>by
  rcases Nat.lt_trichotomy p q with c1 | c1 | c1
  ·rw [Nat.min_eq_left og]; exact (h5 p c1).keep m1 (.inl og)
  ·subst c1
   rw [← h1,Nat.min_eq_right og]; exact s1
  ·intro x y hx hxy hy
   rw [Nat.min_eq_right og] at hy; omega
 have hm:=h4.trans (m1.mono og (Nat.le_refl _))
 obtain ⟨⟨w,d2⟩,e2,q1,q2⟩:=jq (B:=fun s:Nat×List α=>uB c d n a b d1 s.1 s.2) (I:=fun s=>0 < s.1∧Mrg d s.2 0 n∧BS K s.1 s.2 n) (Q:=fun s=>Mrg d s.2 0 n∧Srtd K s.2 0 n) (μ:=fun s=>n - s.1) (fun ⟨w,d2⟩ ⟨p1,p2,p3⟩=>by
  dsimp only at p1 p2 p3 ⊢
  by_cases hw:w < n
  ·obtain ⟨d3,e3,r1,r2⟩:=wT hc (d0:=d) (dz:=d1) (a0:=a) (b0:=b) p1 (p2.len.trans hn) (iG p2 hS) p3
   refine .inl ⟨(w*2,d3),?_,⟨by dsimp only; omega,p2.trans r1,r2⟩,by dsimp only; omega⟩
   unfold uB
   rw [decide_eq_true (by omega:(w:Int) < (n:Int))]
   exact e3
  ·refine .inr ⟨(w,d2),?_,p2,?_⟩
   ·unfold uB
    rw [decide_eq_false (by omega:¬ (w:Int) < (n:Int))]; rfl
   ·have:=p3 0
    rw [Nat.mul_zero,Nat.min_eq_right og] at this; exact this) (n - 20+1) (20,l6 c d1 a n) ⟨by dsimp only; omega,hm,hB⟩ (by dsimp only; omega)
 have he:stb c d n=d2:=by
  refine (ir e).trans ?_
  exact ir e2
 rw [he]
 exact ⟨q1.perm,q2⟩
end
end Go.Sx
namespace Go.Sx
theorem ins_Quad (d:List (U Qd)) (a b:Nat):a7 d a b=l6 bu d a b:=by with_unfolding_all rfl
theorem wM (f:List (U Qd)→Nat→Nat→Nat→List (U Qd)) (d:List (U Qd)) (a m b:Nat):ba f d a m b=tI bu f d a m b:=by with_unfolding_all rfl
theorem sc:∀ n,bU n=symN bu n
 | 0=>rfl
 | n+1=>by
  funext d a m b
  show ba (bU n) d a m b=tI bu (symN bu n) d a m b
  rw [sc n,wM]
theorem sym_Quad (d:List (U Qd)) (a m b:Nat):bM d a m b=sym bu d a m b:=by
 have h:bM d a m b=bU (b - a+1) d a m b:=by with_unfolding_all rfl
 rw [h,sc]; rfl
theorem stb_Quad (d:List (U Qd)) (n:Nat):cq d n=stb bu d n:=by
 have e1:bM=sym bu:=by funext d a m b; exact sym_Quad d a m b
 have e2:a7=l6 bu:=by funext d a b; exact ins_Quad d a b
 unfold cq stb
 simp only [ef,fS,eW,jy,fT,jx,e1,e2]
 rfl
theorem vN (l:List (U Qd)):ag l=stb bu l l.length:=by
 have h:ag l=cq l l.length:=by with_unfolding_all rfl
 rw [h,stb_Quad]
theorem oL {d:List (U Qd)} (hd:∀ u∈d,Tv u.iv):(ag d).Perm d∧(ag d).Pairwise fun a b=>kU a.iv≤kU b.iv:=by
 rw [vN]
 obtain ⟨h1,h2⟩:=stb_spec (c:=bu) (K:=fun u=>kU u.iv) (S:=fun u=>Tv u.iv) (fun x y hx hy=>by rw [p7,uk hx hy,lB]) (d:=d) rfl hd
 refine ⟨h1,List.pairwise_iff_getElem.2 fun i j hi hj hij=>?_⟩
 have hl:=h1.length_eq
 have:=h2 i j (Nat.zero_le _) hij og
 unfold gt at this
 rw [List.getD_eq_getElem?_getD,List.getD_eq_getElem?_getD,List.getElem?_eq_getElem hi,List.getElem?_eq_getElem hj] at this
 exact this
theorem kT {α:Type} {K:α→Nat}:∀ {l m:List α},l.Perm m→l.Pairwise (fun a b=>K a < K b)→m.Pairwise (fun a b=>K a≤K b)→l=m
 | [],m,hp,_,_=>(List.nil_perm.1 hp).symm
 | x::l,[],hp,_,_=>by simpa using hp.length_eq
 | x::l,y::m,hp,hl,hm=>by
  have hx:x∈y::m:=hp.mem_iff.1 List.mem_cons_self
  have hy:y∈x::l:=hp.mem_iff.2 List.mem_cons_self
  obtain ⟨l1,l2⟩:=List.pairwise_cons.1 hl
  obtain ⟨m1,m2⟩:=List.pairwise_cons.1 hm
  have e:x=y:=by
   rcases List.mem_cons.1 hy with h | h
   ·exact h.symm
   ·rcases List.mem_cons.1 hx with h' | h'
    ·exact h'
    ·have:=l1 y h
     have:=m1 x h'
     omega
  subst e
  rw [kT (hp.cons_inv) l2 m2]
theorem oM {d s:List (U Qd)} (hd:∀ u∈d,Tv u.iv) (hp:s.Perm d) (hs:s.Pairwise fun a b=>kU a.iv < kU b.iv):ag d=s∧ao d=s:=by
 obtain ⟨p1,p2⟩:=oL hd
 obtain ⟨q1,q2⟩:=i0 hd
 exact ⟨(kT (hp.trans p1.symm) hs p2).symm,(kT (hp.trans q1.symm) hs q2).symm⟩
end Go.Sx
namespace Go.Sx
theorem mM {l:List (U Qd)} (h:ag l=ao l):aV l=bn l:=by
 have k2:eY l=fu l:=by
  funext a b c
  unfold eY fu
  first | rfl | (simp only [h] <;> rfl)
 have b2:dV l=cY l:=by
  funext a b c
  unfold dV cY
  rw [h]
 have k1:eZ l=dJ l:=by
  funext a
  unfold eZ dJ
  rw [h,b2,k2]
 have b1:dx l=dY l:=by
  funext a
  unfold dx dY
  rw [h]
 unfold aV bn
 rw [b1,k1]
end Go.Sx
