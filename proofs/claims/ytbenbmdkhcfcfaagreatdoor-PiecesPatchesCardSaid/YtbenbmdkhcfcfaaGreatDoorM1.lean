import Derived.Test.YtbenbmdkhcfcfaaGreatDoorA7
import Derived.Test.YtbenbmdkhcfcfaaGreatDoorH1
import Derived.Test.YtbenbmdkhcfcfaaGreatDoorHb
set_option linter.unusedVariables false
set_option linter.unusedSimpArgs false
namespace Go.Sx
section
variable {α:Type} [Inhabited α] (c:α→α→Int)
def wz (a:Nat) (j:Nat) (d:List α):Nx (Nat×List α) (List α) :=
 bif ((decide ((j:Int)>(a:Int))) && (decide ((c (gt d j) (gt d (j - 1))) < 0))) then
  .go ((j - 1),((d.set j (gt d (j - 1))).set (j - 1) (gt d j)))
 else
  .out (j,d)
def isB1 (a b i:Nat) (d:List α):Nx (Nat×List α) (List α) :=
 bif (decide ((i:Int) < (b:Int))) then
  fin (bt (fun s=>wz c a s.1 s.2) (i+1) (i,d)) (fun s=>.go ((i+1),s.2)) (fun r=>.ret r)
 else
  .out (i,d)
def l6 (d:List α) (a b:Nat):List α :=
 fin (bt (fun s=>isB1 c a b s.1 s.2) ((b+1 - (a+1))+1) ((a+1),d)) (fun s=>s.2) (fun r=>r)
def jD (x:α):List α→List α
 | []=>[x]
 | y::q=>if c x y < 0 then y::jD x q else x::y::q
def qx:List α→List α→List α
 | r,[]=>r
 | r,x::s=>qx (jD c x r) s
variable {c}
theorem ow {p:List α} {x:α} {s:List α} {j:Nat} (h:j=p.length):gt (p++x::s) j=x:=by
 subst h; simp [gt,List.getD]
omit [Inhabited α] in
theorem lK (x:α):∀ r:List α,(jD c x r).length=r.length+1
 | []=>rfl
 | y::q=>by
  unfold jD
  split
  ·simp [lK x q]
  ·rfl
theorem sU (x:α):∀ (r s:List α) (k:Nat),r.length < k→∃ j,bt (fun s=>wz c 0 s.1 s.2) k (r.length,r.reverse++x::s)=.inl (j,(jD c x r).reverse++s)
 | [],s,k+1,_=>⟨0,by simp [bt,wz,jD]⟩
 | y::q,s,k+1,hk=>by
  have e1:gt ((y::q).reverse++x::s) ((y::q).length)=x:=ow (by simp)
  have e2:gt ((y::q).reverse++x::s) ((y::q).length - 1)=y:=by
   rw [List.reverse_cons,List.append_assoc,List.singleton_append]
   exact ow (by simp)
  have hp:((y::q).length:Int)>((0:Nat):Int):=by simp
  by_cases h:c x y < 0
  ·obtain ⟨j,hj⟩:=sU x q (y::s) k (by simp at hk; omega)
   refine ⟨j,?_⟩
   have e3:((((y::q).reverse++x::s).set (y::q).length y).set ((y::q).length - 1) x)=q.reverse++x::y::s:=by
    simp only [List.reverse_cons,List.append_assoc,List.length_cons,Nat.add_sub_cancel,List.singleton_append]
    rw [List.set_append_right _ _ (by simp),List.set_append_right _ _ (by simp)]
    simp
   have e4:wz c 0 (y::q).length ((y::q).reverse++x::s)=.go (q.length,q.reverse++x::y::s):=by
    unfold wz
    rw [e1,e2,e3,decide_eq_true hp,decide_eq_true h]
    rfl
   unfold bt
   simp only [e4]
   have ei:jD c x (y::q)=y::jD c x q:=if_pos h
   rw [hj,ei,List.reverse_cons,List.append_assoc]
   rfl
  ·refine ⟨(y::q).length,?_⟩
   have e4:wz c 0 (y::q).length ((y::q).reverse++x::s)=.out ((y::q).length,(y::q).reverse++x::s):=by
    unfold wz
    rw [e1,e2,decide_eq_false h,Bool.and_false]
    rfl
   unfold bt
   simp only [e4]
   have ei:jD c x (y::q)=x::y::q:=if_neg h
   rw [ei,List.reverse_cons (a:=x),List.append_assoc]
   rfl
theorem sV (b:Nat):∀ (s r:List α) (k:Nat),r.length+s.length=b→s.length < k →
 bt (fun s=>isB1 c 0 b s.1 s.2) k (r.length,r.reverse++s)=.inl (b,(qx c r s).reverse)
 | [],r,k+1,hb,_=>by
  have:¬ (r.length:Int) < (b:Int):=by simp at hb; omega
  unfold bt isB1
  simp only [decide_eq_false this,cond_false]
  simp at hb
  rw [hb,List.append_nil]
  rfl
 | x::s,r,k+1,hb,hk=>by
  have hlt:(r.length:Int) < (b:Int):=by simp at hb; omega
  obtain ⟨j,hj⟩:=sU (c:=c) x r s (r.length+1) og
  have ih:=sV b s (jD c x r) k (by rw [lK]; simp at hb; omega) (by simp at hk; omega)
  rw [lK] at ih
  unfold bt
  have e:isB1 c 0 b r.length (r.reverse++x::s)=.go (r.length+1,(jD c x r).reverse++s):=by
   unfold isB1
   rw [decide_eq_true hlt,cond_true,hj]
   rfl
  simp only [e]
  rw [ih]
  rfl
theorem rI (d:List α):l6 c d 0 d.length=(qx c [] d).reverse:=by
 unfold l6
 cases d with
 | nil=>rfl
 | cons x s =>
  have:=sV (c:=c) (x::s).length s [x] ((x::s).length+1 - (0+1)+1) (by simp; omega) (by simp only [List.length_cons]; omega)
  rw [show (0+1,x::s)=([x].length,[x].reverse++s) from rfl,ir this]
  rfl
omit [Inhabited α] in
theorem jO (x:α):∀ r:List α,(jD c x r).Perm (x::r)
 | []=>.refl _
 | y::q=>by
  unfold jD
  split
  ·exact ((jO x q).cons y).trans (.swap x y q)
  ·exact .refl _
omit [Inhabited α] in
theorem qP:∀ (s r:List α),(qx c r s).Perm (r++s)
 | [],r=>by simp [qx]
 | x::s,r=>by
  unfold qx
  refine (qP s _).trans ?_
  refine ((jO x r).append_right s).trans ?_
  exact List.perm_middle.symm
theorem mP (d:List α):(l6 c d 0 d.length).Perm d:=by
 rw [rI]
 exact (List.reverse_perm _).trans (by simpa using qP d [])
variable {S:α→Prop}
omit [Inhabited α] in
theorem nQ (hA:∀ x y,S x→S y→c x y < 0→¬ c y x < 0) (hT:∀ x y z,S x→S y→S z→¬ c x y < 0→¬ c y z < 0→¬ c x z < 0) {x:α} (hx:S x) :
 ∀ {r:List α},(∀ y∈r,S y)→r.Pairwise (fun a b=>¬ c a b < 0)→(jD c x r).Pairwise (fun a b=>¬ c a b < 0)
 | [],_,_=>List.pairwise_singleton _ _
 | y::q,hS,hp=>by
  have hy:=hS y (List.mem_cons_self ..)
  have hq:∀ z∈q,S z:=fun z hz=>hS z (List.mem_cons_of_mem _ hz)
  rw [List.pairwise_cons] at hp
  unfold jD
  split
  case isTrue h =>
   rw [List.pairwise_cons]
   refine ⟨fun z hz=>?_,nQ hA hT hx hq hp.2⟩
   rcases List.mem_cons.1 ((jO x q).mem_iff.1 hz) with rfl | hz
   ·exact hA _ _ hx hy h
   ·exact hp.1 z hz
  case isFalse h =>
   rw [List.pairwise_cons]
   refine ⟨fun z hz=>?_,List.pairwise_cons.2 hp⟩
   rcases List.mem_cons.1 hz with rfl | hz
   ·exact h
   ·exact hT _ _ _ hx hy (hq z hz) h (hp.1 z hz)
omit [Inhabited α] in
theorem oS (hA:∀ x y,S x→S y→c x y < 0→¬ c y x < 0) (hT:∀ x y z,S x→S y→S z→¬ c x y < 0→¬ c y z < 0→¬ c x z < 0) :
 ∀ {s r:List α},(∀ y∈r,S y)→(∀ y∈s,S y)→r.Pairwise (fun a b=>¬ c a b < 0)→(qx c r s).Pairwise (fun a b=>¬ c a b < 0)
 | [],_,_,_,hp=>hp
 | x::s,r,hr,hs,hp=>by
  unfold qx
  refine oS hA hT (fun y hy=>?_) (fun y hy=>hs y (List.mem_cons_of_mem _ hy)) (nQ hA hT (hs x (List.mem_cons_self ..)) hr hp)
  rcases List.mem_cons.1 ((jO x r).mem_iff.1 hy) with rfl | hy
  ·exact hs _ (List.mem_cons_self ..)
  ·exact hr y hy
theorem sS (hA:∀ x y,S x→S y→c x y < 0→¬ c y x < 0) (hT:∀ x y z,S x→S y→S z→¬ c x y < 0→¬ c y z < 0→¬ c x z < 0) {d:List α} (hd:∀ y∈d,S y) :
 (l6 c d 0 d.length).Pairwise (fun a b=>¬ c b a < 0):=by
 rw [rI,List.pairwise_reverse]
 exact oS hA hT (fun _ h=>by cases h) hd .nil
end
end Go.Sx
namespace Go.Sx
def tk (x:GR):Nat:=(bif x.p.num.neg then 0 else 10*x.p.num.mag+10)+(if x.r.num.mag=0 then 0 else 14)
def sgn (a b:Nat):Int:=if a < b then -1 else if b < a then 1 else 0
def sW (a n:Nat):List GR:=(List.range n).flatMap fun (i:Nat)=>[ae (Int.ofNat (a+i)) false,ae (Int.ofNat (a+i)) true]
def chk2 (l m:List GR):Bool:=l.all fun x=>m.all fun y=>an x y == sgn (tk x) (tk y) && (!(tk x == tk y) || decide (x=y))
def insX:List GR:=[ae (-1) false,ae (-1) true,ae 1000 false,ae 1000 true]
def allI:List GR:=insX++sW 0 45
theorem chk_x:chk2 insX allI=true:=by decide +kernel
theorem chk_a:chk2 (sW 0 15) allI=true:=by decide +kernel
theorem chk_b:chk2 (sW 15 15) allI=true:=by decide +kernel
theorem chk_c:chk2 (sW 30 15) allI=true:=by decide +kernel
def Tm (x:GR):Prop:=∃ (n:Int) (r:Bool),(n=-1∨n=1000∨(0≤n∧n < 45))∧x=ae n r
theorem nP {a k n:Nat} (r:Bool) (h1:a≤n) (h2:n < a+k):ae (n:Int) r∈sW a k:=by
 unfold sW
 rw [List.mem_flatMap]
 refine ⟨n - a,List.mem_range.2 og,?_⟩
 rw [show a+(n - a)=n by omega]
 cases r
 ·exact List.mem_cons_self ..
 ·exact List.mem_cons_of_mem _ (List.mem_cons_self ..)
theorem Tm.mem {x:GR} (h:Tm x):x∈insX∨∃ (n:Nat) (r:Bool),n < 45∧x=ae (n:Int) r:=by
 obtain ⟨n,r,h,rfl⟩:=h
 rcases h with rfl | rfl | h
 ·left; unfold insX; cases r <;> simp
 ·left; unfold insX; cases r <;> simp
 ·right
  obtain ⟨k,rfl⟩:∃ k:Nat,n=(k:Int):=⟨n.toNat,by omega⟩
  exact ⟨k,r,by omega,rfl⟩
theorem Tm.all {x:GR} (h:Tm x):x∈allI:=by
 unfold allI
 rcases h.mem with h | ⟨n,r,hn,rfl⟩
 ·exact List.mem_append_left _ h
 ·exact List.mem_append_right _ (nP r (Nat.zero_le n) og)
theorem Tm.both {x y:GR} (hx:Tm x) (hy:Tm y):an x y=sgn (tk x) (tk y)∧(tk x=tk y→x=y):=by
 have key:∀ {l:List GR},chk2 l allI=true→x∈l→an x y=sgn (tk x) (tk y)∧(tk x=tk y→x=y):=fun hc hx=>by
  have h:=List.all_eq_true.1 (List.all_eq_true.1 hc _ hx) _ hy.all
  rw [Bool.and_eq_true] at h
  refine ⟨eq_of_beq h.1,fun e=>?_⟩
  have h2:=h.2
  rw [e,beq_self_eq_true,Bool.not_true,Bool.false_or] at h2
  exact of_decide_eq_true h2
 rcases hx.mem with h | ⟨n,r,hn,rfl⟩
 ·exact key chk_x h
 ·by_cases h1:n < 15
  ·exact key chk_a (nP r (Nat.zero_le n) og)
  ·by_cases h2:n < 30
   ·exact key chk_b (nP r og og)
   ·exact key chk_c (nP r og og)
theorem Tm.of_all {p:GR→Bool} (h:allI.all p=true) {x:GR} (hx:Tm x):p x=true:=List.all_eq_true.1 h x hx.all
theorem Tm.cmp {x y:GR} (hx:Tm x) (hy:Tm y):an x y=sgn (tk x) (tk y):=(hx.both hy).1
theorem Tm.inj {x y:GR} (hx:Tm x) (hy:Tm y):tk x=tk y↔x=y:=⟨(hx.both hy).2,fun e=>by rw [e]⟩
end Go.Sx
namespace Go.Sx
theorem fO {a b:Nat} (h:a < b):sgn a b=-1:=if_pos h
theorem gb {a b:Nat} (h:b < a):sgn a b=1:=by unfold sgn; rw [if_neg og,if_pos h]
theorem dW (a:Nat):sgn a a=0:=by unfold sgn; rw [if_neg (Nat.lt_irrefl a),if_neg (Nat.lt_irrefl a)]
theorem lB {a b:Nat}:sgn a b < 0↔a < b:=by
 rcases Nat.lt_trichotomy a b with h | h | h
 ·rw [fO h]; simp [h]
 ·subst h; rw [dW]; simp
 ·rw [gb h]; simp; omega
theorem sgn_zero {a b:Nat}:sgn a b=0↔a=b:=by
 rcases Nat.lt_trichotomy a b with h | h | h
 ·rw [fO h]; simp; omega
 ·subst h; rw [dW]; simp
 ·rw [gb h]; simp; omega
def ci (i:Iv):Int:=bif i.openLo then 1 else 0
def cU {α:Type} (a b:U α):Int:=nU [an a.iv.lo b.iv.lo,c8 (ci a.iv) (ci b.iv),an a.iv.hi b.iv.hi]
theorem or3 (a b c:Int):nU [a,b,c]=if a≠0 then a else if b≠0 then b else c:=by
 unfold nU
 by_cases ha:a=0
 ·by_cases hb:b=0
  ·by_cases hc:c=0
   ·subst ha hb hc; rfl
   ·subst ha hb
    have e:(c != 0)=true:=bne_iff_ne.2 hc
    simp [bt,fin,ly,gt,e]
  ·subst ha
   have e:(b != 0)=true:=bne_iff_ne.2 hb
   simp [bt,fin,ly,gt,e,hb]
 ·have e:(a != 0)=true:=bne_iff_ne.2 ha
  simp [bt,fin,ly,gt,e,ha]
theorem ci00:c8 0 0=0:=by decide +kernel
theorem ci01:c8 0 1=-1:=by decide +kernel
theorem ci10:c8 1 0=1:=by decide +kernel
theorem ci11:c8 1 1=0:=by decide +kernel
theorem tM {x:GR} (h:Tm x):tk x < 100000:=by
 have:=Tm.of_all (p:=fun x=>decide (tk x < 100000)) (by decide +kernel) h
 exact of_decide_eq_true this
def Tv (i:Iv):Prop:=Tm i.lo∧Tm i.hi
def kU (i:Iv):Nat:=(tk i.lo*2+(bif i.openLo then 1 else 0))*100000+tk i.hi
theorem uk {α:Type} {a b:U α} (ha:Tv a.iv) (hb:Tv b.iv):cU a b=sgn (kU a.iv) (kU b.iv):=by
 have l1:=tM ha.2
 have l2:=tM hb.2
 unfold cU
 rw [or3,ha.1.cmp hb.1,ha.2.cmp hb.2]
 unfold kU ci
 generalize tk a.iv.lo=p at *
 generalize tk b.iv.lo=q at *
 generalize tk a.iv.hi=s at *
 generalize tk b.iv.hi=t at *
 have key:∀ x y:Nat,x≤1→y≤1→(if sgn p q≠0 then sgn p q else if sgn x y≠0 then sgn x y else sgn s t)=sgn ((p*2+x)*100000+s) ((q*2+y)*100000+t):=by
  intro x y hx hy
  rcases Nat.lt_trichotomy p q with h | h | h
  ·rw [fO h,if_pos DC]; exact (fO og).symm
  ·subst h
   rw [dW,if_neg DC]
   rcases Nat.lt_trichotomy x y with h | h | h
   ·rw [fO h,if_pos DC]; exact (fO og).symm
   ·subst h
    rw [dW,if_neg DC]
    rcases Nat.lt_trichotomy s t with h | h | h
    ·rw [fO h,fO og]
    ·subst h
     rw [dW,dW]
    ·rw [gb h,gb og]
   ·rw [gb h,if_pos DC]; exact (gb og).symm
  ·rw [gb h,if_pos DC]; exact (gb og).symm
 cases a.iv.openLo <;> cases b.iv.openLo <;> simp only [cond_true,cond_false,ci00,ci01,ci10,ci11]
 ·exact key 0 0 DC DC
 ·exact key 0 1 DC DC
 ·exact key 1 0 DC DC
 ·exact key 1 1 DC DC
theorem vO {α:Type} [Inhabited (U α)] {c:U α→U α→Int} (hc:∀ a b,c a b=cU a b) {d:List (U α)} (hd:∀ u∈d,Tv u.iv) :
 (l6 c d 0 d.length).Perm d∧(l6 c d 0 d.length).Pairwise fun a b=>kU a.iv≤kU b.iv:=by
 refine ⟨mP d,?_⟩
 have hp:=sS (c:=c) (S:=fun u=>Tv u.iv)
  (fun x y hx hy h=>by rw [hc,uk hx hy,lB] at h; rw [hc,uk hy hx,lB]; omega)
  (fun x y z hx hy hz h1 h2=>by rw [hc,uk hx hy,lB] at h1; rw [hc,uk hy hz,lB] at h2; rw [hc,uk hx hz,lB]; omega) hd
 refine hp.imp_of_mem (fun {a b} ha hb h=>?_)
 have ha':=hd a ((mP d).mem_iff.1 ha)
 have hb':=hd b ((mP d).mem_iff.1 hb)
 rw [hc,uk hb' ha',lB] at h
 omega
def dL (i:Iv):Nat:=2*tk i.lo+(bif i.openLo then 1 else 0)
def ec (i:Iv):Int:=2*tk i.hi - (bif i.openHi then 1 else 0)
def Wv (i:Iv):Prop:=Tv i∧tk i.lo≤tk i.hi∧(tk i.lo=tk i.hi→i.openLo=false∧i.openHi=false)
theorem Wv.le {i:Iv} (h:Wv i):(dL i:Int)≤ec i:=by
 obtain ⟨_,h1,h2⟩:=h
 unfold dL ec
 by_cases e:tk i.lo=tk i.hi
 ·rw [(h2 e).1,(h2 e).2,e]; simp
 ·cases i.openLo <;> cases i.openHi <;> simp <;> omega
theorem mI {a b:Iv} (ha:Tv a) (hb:Tv b):dI a b=decide (ec a < (dL b:Int)):=by
 unfold dI
 rw [ha.2.cmp hb.1]
 unfold ec dL
 rcases Nat.lt_trichotomy (tk a.hi) (tk b.lo) with h | h | h
 ·rw [fO h]
  cases a.openHi <;> cases b.openLo <;> simp <;> omega
 ·rw [h,dW]
  cases a.openHi <;> cases b.openLo <;> simp <;> omega
 ·rw [gb h]
  cases a.openHi <;> cases b.openLo <;> simp <;> omega
theorem ky {i:Iv} (h:Tv i):aN i=decide (tk i.lo=tk i.hi):=by
 unfold aN
 exact decide_eq_decide.2 (h.1.inj h.2).symm
end Go.Sx
namespace Go.Sx
def Ts (l:List GR):Prop:=(∀ x∈l,Tm x)∧l.Pairwise fun x y=>tk x < tk y
theorem eN {S R:Type} {B:S→Nx S R} (n:Nat) {s s':S} (h:B s=.go s'):bt B (n+1) s=bt B n s':=by
 show (match B s with | .go s'=>bt B n s' | .out s'=>.inl s' | .ret r=>.inr r)=_
 rw [h]
theorem fD {S R:Type} {B:S→Nx S R} (n:Nat) {s s':S} (h:B s=.out s'):bt B (n+1) s=.inl s':=by
 show (match B s with | .go s'=>bt B n s' | .out s'=>.inl s' | .ret r=>.inr r)=_
 rw [h]
theorem sQ {S R:Type} {B:S→Nx S R} (n:Nat) {s:S} {r:R} (h:B s=.ret r):bt B (n+1) s=.inr r:=by
 show (match B s with | .go s'=>bt B n s' | .out s'=>.inl s' | .ret r=>.inr r)=_
 rw [h]
theorem pO {x:GR} (hx:Tm x):∀ (s p l:List GR) (k:Nat),l=p++s→s.length < k→Ts l→(∀ y∈p,tk y < tk x) →
 ∃ r,fin (bt (fun s=>cN l x s) k p.length) (fun s=>jU l x s) (fun r=>r)=r∧Ts r∧∀ y,y∈r↔y∈l∨y=x
 | [],p,l,k+1,hl,_,ht,hp=>by
  have hn:¬ (p.length:Int) < (l.length:Int):=by rw [hl]; simp
  rw [List.append_nil] at hl
  subst hl
  refine ⟨l++[x],?_,⟨?_,?_⟩,fun y=>by simp⟩
  ·unfold bt cN
   rw [decide_eq_false hn]
   rfl
  ·intro y hy
   rcases List.mem_append.1 hy with hy | hy
   ·exact ht.1 y hy
   ·rw [List.mem_singleton.1 hy]; exact hx
  ·rw [List.pairwise_append]
   exact ⟨ht.2,List.pairwise_singleton _ _,fun a ha b hb=>by rw [List.mem_singleton.1 hb]; exact hp a ha⟩
 | y::s,p,l,k+1,hl,hk,ht,hp=>by
  have hn:(p.length:Int) < (l.length:Int):=by rw [hl]; simp; omega
  have hg:gt l p.length=y:=by rw [hl]; exact ow rfl
  have hy:Tm y:=ht.1 y (by rw [hl]; simp)
  have hc:an x y=sgn (tk x) (tk y):=hx.cmp hy
  have htl:=ht.2
  rw [hl,List.pairwise_append,List.pairwise_cons] at htl
  rcases Nat.lt_trichotomy (tk x) (tk y) with h | h | h
  ·refine ⟨((([]++(l.take p.length))++[x])++(l.drop p.length)),?_,?_,?_⟩
   ·unfold bt cN
    rw [decide_eq_true hn,hg,hc,fO h]
    rfl
   ·have e:((([]++(l.take p.length))++[x])++(l.drop p.length))=p++x::y::s:=by rw [hl]; simp
    rw [e]
    refine ⟨fun z hz=>?_,?_⟩
    ·rcases List.mem_append.1 hz with hz | hz
     ·exact ht.1 z (by rw [hl]; simp [hz])
     ·rcases List.mem_cons.1 hz with rfl | hz
      ·exact hx
      ·exact ht.1 z (by rw [hl]; exact List.mem_append_right _ hz)
    ·rw [List.pairwise_append,List.pairwise_cons,List.pairwise_cons]
     refine ⟨htl.1,⟨fun z hz=>?_,htl.2.1⟩,fun a ha b hb=>?_⟩
     ·rcases List.mem_cons.1 hz with rfl | hz
      ·exact h
      ·exact Nat.lt_trans h (htl.2.1.1 z hz)
     ·rcases List.mem_cons.1 hb with rfl | hb
      ·exact hp a ha
      ·exact htl.2.2 a ha b hb
   ·intro z
    rw [hl]
    simp only [List.nil_append,List.take_left',List.drop_left',List.append_assoc,List.mem_append,List.mem_singleton,List.singleton_append,List.mem_cons]
    constructor
    ·rintro (h | h | h)
     ·exact .inl (.inl h)
     ·exact .inr h
     ·exact .inl (.inr h)
    ·rintro ((h | h) | h)
     ·exact .inl h
     ·exact .inr (.inr h)
     ·exact .inr (.inl h)
  ·have e:=(hx.inj hy).1 h
   refine ⟨l,?_,ht,fun z=>⟨.inl,fun hz=>hz.elim id fun e'=>by rw [e',e,hl]; simp⟩⟩
   unfold bt cN
   rw [decide_eq_true hn,hg,hc,h,dW]
   rfl
  ·obtain ⟨r,h1,h2⟩:=pO hx s (p++[y]) l k (by rw [hl]; simp) (by simp at hk; omega) ht (fun z hz=>by
    rcases List.mem_append.1 hz with hz | hz
    ·exact hp z hz
    ·rw [List.mem_singleton.1 hz]; exact h)
   refine ⟨r,?_,h2⟩
   rw [← h1,List.length_append]
   have e:cN l x p.length=.go (p.length+1):=by
    unfold cN
    rw [decide_eq_true hn,hg,hc,gb h]
    rfl
   rw [eN (B:=fun s=>cN l x s) k e]
   rfl
theorem sY {l:List GR} {x:GR} (hl:Ts l) (hx:Tm x):Ts (aw l x)∧∀ y,y∈aw l x↔y∈l∨y=x:=by
 obtain ⟨r,h1,h2⟩:=pO hx l [] l (l.length - 0+1) rfl og hl (fun _ h=>by cases h)
 have e:aw l x=r:=by
  unfold aw
  exact h1
 rw [e]
 exact h2
def kH (l:List Iv):List GR:=l.foldl (fun o i=>aw (aw o i.lo) i.hi) []
theorem yn {l:List Iv} (hl:∀ i∈l,Tv i):∀ {o:List GR},Ts o→Ts (l.foldl (fun o i=>aw (aw o i.lo) i.hi) o)∧∀ y,y∈l.foldl (fun o i=>aw (aw o i.lo) i.hi) o↔y∈o∨∃ i∈l,y=i.lo∨y=i.hi:=by
 induction l with
 | nil=>intro o ho; exact ⟨ho,fun y=>by simp⟩
 | cons i l ih =>
  intro o ho
  have hi:=hl i (List.mem_cons_self ..)
  obtain ⟨h1,h2⟩:=sY ho hi.1
  obtain ⟨h3,h4⟩:=sY h1 hi.2
  obtain ⟨h5,h6⟩:=ih (fun j hj=>hl j (List.mem_cons_of_mem _ hj)) h3
  refine ⟨h5,fun y=>?_⟩
  rw [List.foldl_cons,h6,h4,h2]
  constructor
  ·rintro (((h | h) | h) | ⟨j,hj,h⟩)
   ·exact .inl h
   ·exact .inr ⟨i,List.mem_cons_self ..,.inl h⟩
   ·exact .inr ⟨i,List.mem_cons_self ..,.inr h⟩
   ·exact .inr ⟨j,List.mem_cons_of_mem _ hj,h⟩
  ·rintro (h | ⟨j,hj,h⟩)
   ·exact .inl (.inl (.inl h))
   ·rcases List.mem_cons.1 hj with rfl | hj
    ·rcases h with h | h
     ·exact .inl (.inl (.inr h))
     ·exact .inl (.inr h)
    ·exact .inr ⟨j,hj,h⟩
theorem mT {l:List Iv} (hl:∀ i∈l,Tv i):Ts (kH l)∧∀ y,y∈kH l↔∃ i∈l,y=i.lo∨y=i.hi:=by
 obtain ⟨h1,h2⟩:=yn hl (o:=[]) ⟨fun _ h=>(by cases h),List.Pairwise.nil⟩
 exact ⟨h1,fun y=>by rw [kH,h2]; simp⟩
theorem pS {α β R:Type} [Inhabited α] {f:β→α→β} (l:List α) {B:β×Nat→Nx (β×Nat) R} (hgo:∀ o i,i < l.length→B (o,i)=.go (f o (gt l i),i+1)) (hout:∀ o,B (o,l.length)=.out (o,l.length)) :
 ∀ (s p:List α) (o:β) (k:Nat),l=p++s→s.length < k→bt B k (o,p.length)=.inl (s.foldl f o,l.length)
 | [],p,o,k+1,hl,_=>by
  rw [List.append_nil] at hl
  rw [← hl,fD k (hout o)]
  rfl
 | x::s,p,o,k+1,hl,hk=>by
  have hg:gt l p.length=x:=by rw [hl]; exact ow rfl
  have h1:=hgo o p.length (by rw [hl]; simp)
  rw [hg] at h1
  have ih:=pS l hgo hout s (p++[x]) (f o x) k (by rw [hl]; simp) (by simp at hk; omega)
  rw [eN k h1,List.foldl_cons,← ih,List.length_append]
  rfl
end Go.Sx
namespace Go.Sx
section
variable {α:Type}
def ptA (z:α) (t:GR):At α:=⟨t,t,false,false,z⟩
def qR (z:α) (t t':GR):At α:=⟨t,t',true,false,z⟩
def f7 (z:α):List GR→List (At α)
 | []=>[]
 | [t]=>[ptA z t]
 | t::t'::r=>ptA z t::qR z t t'::f7 z (t'::r)
def lx (u:U α) (a:At α):At α:=bif aT u.iv a.frm a.til a.gap then ⟨a.frm,a.til,a.gap,true,u.f⟩ else a
def kz (l:List (U α)) (a:At α):At α:=l.foldl (fun a u=>lx u a) a
def iJ (z:α) (l:List (U α)) (ts:List GR):List (At α):=(f7 z ts).map (kz l)
end
theorem gt_set {α:Type} [Inhabited α] {l:List α} {i:Nat} {x:α} (h:i < l.length):gt (l.set i x) i=x:=by
 simp [gt,List.getD,h]
theorem set_gt {α:Type} [Inhabited α] {l:List α} {i:Nat} (h:i < l.length):l.set i (gt l i)=l:=by
 simp [gt,List.getD,List.getElem?_eq_getElem h]
section
variable {α R:Type} [Inhabited (At α)]
omit [Inhabited (At α)] in
theorem qj {z:α} {ts:List GR} {B:List (At α)×Nat→Nx (List (At α)×Nat) R}
 (h1:∀ o i,i+1 < ts.length→B (o,i)=.go ((o++[ptA z (gt ts i)])++[qR z (gt ts i) (gt ts (i+1))],i+1))
 (h2:∀ o i,i+1=ts.length→B (o,i)=.go (o++[ptA z (gt ts i)],i+1)) (h3:∀ o,B (o,ts.length)=.out (o,ts.length)) :
 ∀ (s p:List GR) (o:List (At α)) (k:Nat),ts=p++s→s.length < k→bt B k (o,p.length)=.inl (o++f7 z s,ts.length)
 | [],p,o,k+1,hl,_=>by
  rw [List.append_nil] at hl
  rw [← hl,fD k (h3 o),f7,List.append_nil]
 | [t],p,o,k+1,hl,hk=>by
  have e:=h2 o p.length (by rw [hl]; simp)
  have hg:gt ts p.length=t:=by rw [hl]; exact ow rfl
  rw [hg] at e
  have ih:=qj h1 h2 h3 [] (p++[t]) (o++[ptA z t]) k (by rw [hl]; simp) (by simp at hk; omega)
  rw [List.length_append] at ih
  rw [eN k e]
  refine Eq.trans ih ?_
  simp [f7]
 | t::t'::r,p,o,k+1,hl,hk=>by
  have e:=h1 o p.length (by rw [hl]; simp)
  have hg:gt ts p.length=t:=by rw [hl]; exact ow rfl
  have hg':gt ts (p.length+1)=t':=by
   rw [hl,show p++t::t'::r=(p++[t])++t'::r by simp]
   exact ow (by simp)
  rw [hg,hg'] at e
  have ih:=qj h1 h2 h3 (t'::r) (p++[t]) ((o++[ptA z t])++[qR z t t']) k (by rw [hl]; simp) (by simp at hk ⊢; omega)
  rw [List.length_append] at ih
  rw [eN k e]
  refine Eq.trans ih ?_
  simp [f7]
theorem oB {β γ:Type} [Inhabited γ] {f:β→γ→β} (l:List γ) {B:Nat×β→Nx (Nat×β) R} {I:β→Prop} (hI:∀ o x,I o→I (f o x)) (hgo:∀ o i,I o→i < l.length→B (i,o)=.go (i+1,f o (gt l i))) (hout:∀ o,B (l.length,o)=.out (l.length,o)) :
 ∀ (s p:List γ) (o:β) (k:Nat),I o→l=p++s→s.length < k→bt B k (p.length,o)=.inl (l.length,s.foldl f o)
 | [],p,o,k+1,_,hl,_=>by
  rw [List.append_nil] at hl
  rw [← hl,fD k (hout o)]
  rfl
 | x::s,p,o,k+1,hi,hl,hk=>by
  have hg:gt l p.length=x:=by rw [hl]; exact ow rfl
  have h1:=hgo o p.length hi (by rw [hl]; simp)
  rw [hg] at h1
  have ih:=oB l hI hgo hout s (p++[x]) (f o x) k (hI _ _ hi) (by rw [hl]; simp) (by simp at hk; omega)
  rw [eN k h1,List.foldl_cons,← ih,List.length_append]
  rfl
theorem u9 (i:Nat):∀ (l:List (U α)) (o:List (At α)),i < o.length→l.foldl (fun o u=>o.set i (lx u (gt o i))) o=o.set i (kz l (gt o i))
 | [],o,h=>(set_gt h).symm
 | u::l,o,h=>by
  rw [List.foldl_cons,u9 i l _ (by simpa using h),gt_set h,List.set_set]
  rfl
end
theorem uY {γ R:Type} [Inhabited γ] {g:γ→γ} {n:Nat} {B:Nat×List γ→Nx (Nat×List γ) R} (hgo:∀ o i,i < o.length→o.length=n→B (i,o)=.go (i+1,o.set i (g (gt o i)))) (hout:∀ o,o.length=n→B (n,o)=.out (n,o)) :
 ∀ (s p:List γ) (k:Nat),p.length+s.length=n→s.length < k→bt B k (p.length,p++s)=.inl (n,p++s.map g)
 | [],p,k+1,hn,_=>by
  rw [List.append_nil]
  simp at hn
  rw [hn,fD k (hout p hn),List.map_nil,List.append_nil]
 | x::s,p,k+1,hn,hk=>by
  have h1:=hgo (p++x::s) p.length (by simp) (by simpa using hn)
  rw [ow rfl,List.set_append_right _ _ (Nat.le_refl _),Nat.sub_self,List.set_cons_zero] at h1
  have ih:=uY hgo hout s (p++[g x]) k (by simp at hn ⊢; omega) (by simp at hk; omega)
  rw [List.length_append,List.append_assoc] at ih
  rw [eN k h1]
  refine Eq.trans ih ?_
  simp
end Go.Sx
namespace Go.Sx
theorem mB {i:Iv} {t:GR} (hi:Tv i) (ht:Tm t):aT i t t false=decide (dL i≤2*tk t∧(2*tk t:Int)≤ec i):=by
 unfold aT
 rw [cond_false,hi.1.cmp ht,ht.cmp hi.2]
 unfold dL ec
 rcases Nat.lt_trichotomy (tk i.lo) (tk t) with h | h | h
 ·rw [fO h]
  rcases Nat.lt_trichotomy (tk t) (tk i.hi) with h2 | h2 | h2
  ·rw [fO h2]; cases i.openLo <;> cases i.openHi <;> simp <;> omega
  ·rw [h2,dW]; cases i.openLo <;> cases i.openHi <;> simp <;> omega
  ·rw [gb h2]; cases i.openLo <;> cases i.openHi <;> simp <;> omega
 ·rw [h,dW]
  rcases Nat.lt_trichotomy (tk t) (tk i.hi) with h2 | h2 | h2
  ·rw [fO h2]; cases i.openLo <;> cases i.openHi <;> simp <;> omega
  ·rw [h2,dW]; cases i.openLo <;> cases i.openHi <;> simp <;> omega
  ·rw [gb h2]; cases i.openLo <;> cases i.openHi <;> simp <;> omega
 ·rw [gb h]
  cases i.openLo <;> cases i.openHi <;> simp <;> omega
theorem mQ {i:Iv} {t t':GR} (hi:Tv i) (ht:Tm t) (ht':Tm t'):aT i t t' true=decide (dL i≤2*tk t+1∧(2*tk t':Int) - 1≤ec i):=by
 unfold aT
 rw [cond_true,hi.1.cmp ht,ht'.cmp hi.2]
 unfold dL ec
 have e1:decide (sgn (tk i.lo) (tk t)≤0)=decide (tk i.lo≤tk t):=by
  rcases Nat.lt_trichotomy (tk i.lo) (tk t) with h | h | h
  ·rw [fO h]; simp; omega
  ·rw [h,dW]; simp
  ·rw [gb h]; simp; omega
 have e2:decide (sgn (tk t') (tk i.hi)≤0)=decide (tk t'≤tk i.hi):=by
  rcases Nat.lt_trichotomy (tk t') (tk i.hi) with h | h | h
  ·rw [fO h]; simp; omega
  ·rw [h,dW]; simp
  ·rw [gb h]; simp; omega
 rw [e1,e2,← Bool.decide_and]
 apply decide_eq_decide.2
 cases i.openLo <;> cases i.openHi <;> simp <;> omega
def ptU {α:Type} (t:GR) (f:α):U α:=⟨⟨t,t,false,false⟩,f⟩
def m7 {α:Type} (t t':GR) (f:α):U α:=⟨⟨t,t',true,true⟩,f⟩
def atU {α:Type} (u:U α):List (U α) :=
 (bif u.iv.openLo then [] else [ptU u.iv.lo u.f])++(bif aN u.iv then [] else m7 u.iv.lo u.iv.hi u.f::(bif u.iv.openHi then [] else [ptU u.iv.hi u.f]))
theorem pQ {α β:Type} (g:α→List β):∀ (l:List α) (o:List β),l.foldl (fun o u=>o++g u) o=o++l.flatMap g
 | [],o=>by simp
 | u::l,o=>by rw [List.foldl_cons,pQ g l,List.flatMap_cons,List.append_assoc]
end Go.Sx
namespace Go.Sx
theorem pw {β:Type} {k:β→Nat}:∀ {l m:List β},(l.Pairwise fun a b=>k a < k b)→(m.Pairwise fun a b=>k a < k b)→(∀ x,x∈l↔x∈m)→l=m
 | [],[],_,_,_=>rfl
 | [],y::m,_,_,h=>by have:=(h y).2 (List.mem_cons_self ..); cases this
 | x::l,[],_,_,h=>by have:=(h x).1 (List.mem_cons_self ..); cases this
 | x::l,y::m,hl,hm,h=>by
  rw [List.pairwise_cons] at hl hm
  have e:x=y:=by
   rcases List.mem_cons.1 ((h x).1 (List.mem_cons_self ..)) with e | hx
   ·exact e
   ·rcases List.mem_cons.1 ((h y).2 (List.mem_cons_self ..)) with e | hy
    ·exact e.symm
    ·have h1:=hm.1 x hx
     have h2:=hl.1 y hy
     omega
  subst e
  refine congrArg (x::·) (pw hl.2 hm.2 fun z=>?_)
  constructor
  ·intro hz
   rcases List.mem_cons.1 ((h z).1 (List.mem_cons_of_mem _ hz)) with rfl | hz'
   ·exact absurd (hl.1 z hz) (Nat.lt_irrefl _)
   ·exact hz'
  ·intro hz
   rcases List.mem_cons.1 ((h z).2 (List.mem_cons_of_mem _ hz)) with rfl | hz'
   ·exact absurd (hm.1 z hz) (Nat.lt_irrefl _)
   ·exact hz'
def Dj (a b:Iv):Prop:=ec a < (dL b:Int)∨ec b < (dL a:Int)
theorem Dj.symm {a b:Iv} (h:Dj a b):Dj b a:=Or.symm h
theorem xy {β:Type} {R:β→β→Prop} (hs:∀ a b,R a b→R b a):∀ {l:List β},l.Pairwise R→∀ a∈l,∀ b∈l,a=b∨R a b
 | [],_,a,ha,_,_=>by cases ha
 | x::l,hp,a,ha,b,hb=>by
  rw [List.pairwise_cons] at hp
  rcases List.mem_cons.1 ha with e1 | ha2 <;> rcases List.mem_cons.1 hb with e2 | hb2
  ·exact .inl (e1.trans e2.symm)
  ·rw [e1]; exact .inr (hp.1 b hb2)
  ·rw [e2]; exact .inr (hs _ _ (hp.1 a ha2))
  ·exact xy hs hp.2 a ha2 b hb2
theorem end_out {v w:Iv} (hv:Wv v) (hw:Wv w) (h:v=w∨Dj v w) {t:GR} (ht:t=w.lo∨t=w.hi):¬ (tk v.lo < tk t∧tk t < tk v.hi):=by
 rintro ⟨h1,h2⟩
 have l1:=hv.le
 have l2:=hw.le
 rcases h with rfl | h
 ·rcases ht with rfl | rfl <;> omega
 ·unfold Dj at h
  have a1:2*tk v.lo≤dL v∧dL v≤2*tk v.lo+1:=by unfold dL; cases v.openLo <;> simp
  have a2:2*(tk v.hi:Int) - 1≤ec v∧ec v≤2*tk v.hi:=by unfold ec; cases v.openHi <;> simp <;> omega
  have b1:2*tk w.lo≤dL w∧dL w≤2*tk w.lo+1:=by unfold dL; cases w.openLo <;> simp
  have b2:2*(tk w.hi:Int) - 1≤ec w∧ec w≤2*tk w.hi:=by unfold ec; cases w.openHi <;> simp <;> omega
  rcases ht with rfl | rfl <;> rcases h with h | h <;> omega
section
variable {α:Type}
theorem te:∀ {l:List (U α)} {a:At α},(∀ v∈l,aT v.iv a.frm a.til a.gap=false)→kz l a=a
 | [],a,_=>rfl
 | u::l,a,h=>by
  have e:lx u a=a:=by unfold lx; rw [h u (List.mem_cons_self ..)]; rfl
  show kz l (lx u a)=a
  rw [e]
  exact te fun v hv=>h v (List.mem_cons_of_mem _ hv)
theorem pV {f:α}:∀ {l:List (U α)} {a:At α},(∀ v∈l,aT v.iv a.frm a.til a.gap=true→v.f=f)→(a=⟨a.frm,a.til,a.gap,true,f⟩∨∃ v∈l,aT v.iv a.frm a.til a.gap=true)→kz l a=⟨a.frm,a.til,a.gap,true,f⟩
 | [],a,_,h=>by
  rcases h with h | ⟨v,hv,_⟩
  ·exact h
  ·cases hv
 | u::l,a,hu,h=>by
  show kz l (lx u a)=_
  cases hb:aT u.iv a.frm a.til a.gap with
  | true =>
   have e:lx u a=⟨a.frm,a.til,a.gap,true,f⟩:=by
    unfold lx
    rw [hb,cond_true,hu u (List.mem_cons_self ..) hb]
   rw [e]
   exact pV (f:=f) (a:=⟨a.frm,a.til,a.gap,true,f⟩) (fun v hv=>hu v (List.mem_cons_of_mem _ hv)) (.inl rfl)
  | false =>
   have e:lx u a=a:=by unfold lx; rw [hb]; rfl
   rw [e]
   refine pV (fun v hv=>hu v (List.mem_cons_of_mem _ hv)) (h.imp id ?_)
   rintro ⟨v,hv,h1⟩
   rcases List.mem_cons.1 hv with rfl | hv
   ·rw [hb] at h1; cases h1
   ·exact ⟨v,hv,h1⟩
end
end Go.Sx
namespace Go.Sx
section
variable {α:Type}
theorem ko {z:α} {a:At α}:∀ {ts:List GR},a∈f7 z ts↔(∃ t∈ts,a=ptA z t)∨∃ t t',(∃ p s,ts=p++t::t'::s)∧a=qR z t t'
 | []=>by
  constructor
  ·intro h; cases h
  ·rintro (⟨t,h,_⟩ | ⟨t,t',⟨p,s,h⟩,_⟩)
   ·cases h
   ·cases p <;> cases h
 | [t]=>by
  constructor
  ·intro h
   exact .inl ⟨t,List.mem_cons_self ..,List.mem_singleton.1 h⟩
  ·rintro (⟨x,h,e⟩ | ⟨x,t',⟨p,s,h⟩,_⟩)
   ·rw [e,List.mem_singleton.1 h]; exact List.mem_cons_self ..
   ·have:=congrArg List.length h
    simp at this
    omega
 | t::t'::r=>by
  have ih:=ko (z:=z) (a:=a) (ts:=t'::r)
  constructor
  ·intro h
   rcases List.mem_cons.1 h with e | h
   ·exact .inl ⟨t,List.mem_cons_self ..,e⟩
   ·rcases List.mem_cons.1 h with e | h
    ·exact .inr ⟨t,t',⟨[],r,rfl⟩,e⟩
    ·rcases ih.1 h with ⟨x,hx,e⟩ | ⟨x,y,⟨p,s,hs⟩,e⟩
     ·exact .inl ⟨x,List.mem_cons_of_mem _ hx,e⟩
     ·exact .inr ⟨x,y,⟨t::p,s,by rw [hs]; rfl⟩,e⟩
  ·rintro (⟨x,hx,e⟩ | ⟨x,y,⟨p,s,hs⟩,e⟩)
   ·rcases List.mem_cons.1 hx with rfl | hx
    ·rw [e]; exact List.mem_cons_self ..
    ·exact List.mem_cons_of_mem _ (List.mem_cons_of_mem _ (ih.2 (.inl ⟨x,hx,e⟩)))
   ·cases p with
    | nil =>
     rw [List.nil_append,List.cons.injEq,List.cons.injEq] at hs
     rw [e,← hs.1,← hs.2.1]
     exact List.mem_cons_of_mem _ (List.mem_cons_self ..)
    | cons q p =>
     rw [List.cons_append,List.cons.injEq] at hs
     exact List.mem_cons_of_mem _ (List.mem_cons_of_mem _ (ih.2 (.inr ⟨x,y,⟨p,s,hs.2⟩,e⟩)))
end
theorem ru {ts:List GR} (h:Ts ts) {t t':GR}:(∃ p s,ts=p++t::t'::s)↔t∈ts∧t'∈ts∧tk t < tk t'∧∀ x∈ts,¬ (tk t < tk x∧tk x < tk t'):=by
 constructor
 ·rintro ⟨p,s,rfl⟩
  have hp:=h.2
  rw [List.pairwise_append,List.pairwise_cons,List.pairwise_cons] at hp
  refine ⟨by simp,by simp,hp.2.1.1 t' (List.mem_cons_self ..),fun x hx=>?_⟩
  rcases List.mem_append.1 hx with hx | hx
  ·have:=hp.2.2 x hx t (List.mem_cons_self ..); omega
  ·rcases List.mem_cons.1 hx with rfl | hx
   ·omega
   ·rcases List.mem_cons.1 hx with rfl | hx
    ·omega
    ·have:=hp.2.1.2.1 x hx; omega
 ·rintro ⟨h1,h2,h3,h4⟩
  obtain ⟨p,s,rfl⟩:=List.append_of_mem h1
  have hp:=h.2
  rw [List.pairwise_append,List.pairwise_cons] at hp
  have h5:t'∈s:=by
   rcases List.mem_append.1 h2 with h2 | h2
   ·have:=hp.2.2 t' h2 t (List.mem_cons_self ..); omega
   ·rcases List.mem_cons.1 h2 with rfl | h2
    ·omega
    ·exact h2
  cases s with
  | nil=>cases h5
  | cons x s =>
   refine ⟨p,s,?_⟩
   rcases List.mem_cons.1 h5 with rfl | h6
   ·rfl
   ·rw [List.pairwise_cons] at hp
    have e1:=hp.2.1.1 x (List.mem_cons_self ..)
    have e2:=hp.2.1.2.1 t' h6
    exact absurd ⟨e1,e2⟩ (h4 x (by simp))
section
variable {α:Type}
def plA (a:At α):Nat:=2*tk a.frm+(bif a.gap then 1 else 0)
theorem qi {z:α}:∀ {ts:List GR},(ts.Pairwise fun x y=>tk x < tk y)→(f7 z ts).Pairwise (fun a b=>plA a < plA b)∧∀ a∈f7 z ts,∀ t∈ts.head?,2*tk t≤plA a
 | [],_=>⟨.nil,fun a h=>by cases h⟩
 | [t],_=>⟨List.pairwise_singleton _ _,fun a h x hx=>by
  rw [List.mem_singleton.1 h]
  cases hx
  simp [plA,ptA]⟩
 | t::t'::r,hp=>by
  rw [List.pairwise_cons] at hp
  obtain ⟨i1,i2⟩:=qi (z:=z) hp.2
  have h0:=hp.1 t' (List.mem_cons_self ..)
  have i3:∀ a∈f7 z (t'::r),2*tk t'≤plA a:=fun a ha=>i2 a ha t' rfl
  constructor
  ·show (ptA z t::qR z t t'::f7 z (t'::r)).Pairwise _
   rw [List.pairwise_cons,List.pairwise_cons]
   refine ⟨fun a ha=>?_,fun a ha=>?_,i1⟩
   ·rcases List.mem_cons.1 ha with rfl | ha
    ·simp [plA,ptA,qR]
    ·have:=i3 a ha
     simp [plA,ptA] at this ⊢
     omega
   ·have:=i3 a ha
    simp [plA,qR] at this ⊢
    omega
  ·intro a ha x hx
   cases hx
   rcases List.mem_cons.1 ha with rfl | ha
   ·simp [plA,ptA]
   ·rcases List.mem_cons.1 ha with rfl | ha
    ·simp [plA,qR]
    ·have:=i3 a ha
     omega
end
end Go.Sx
namespace Go.Sx
theorem fst_b (i:Iv):2*tk i.lo≤dL i∧dL i≤2*tk i.lo+1:=by unfold dL; cases i.openLo <;> simp
theorem xV (i:Iv):2*(tk i.hi:Int) - 1≤ec i∧ec i≤2*tk i.hi:=by unfold ec; cases i.openHi <;> simp <;> omega
section
variable {α:Type}
def toU (a:At α):U α:=⟨⟨a.frm,a.til,a.gap,a.gap⟩,a.f⟩
theorem rC {u w:U α}:w∈atU u↔(u.iv.openLo=false∧w=ptU u.iv.lo u.f)∨(aN u.iv=false∧w=m7 u.iv.lo u.iv.hi u.f)∨(aN u.iv=false∧u.iv.openHi=false∧w=ptU u.iv.hi u.f):=by
 unfold atU
 cases u.iv.openLo <;> cases aN u.iv <;> cases u.iv.openHi <;> simp
theorem x4 {u:List (U α)} (hW:∀ x∈u,Wv x.iv) (hD:u.Pairwise fun a b=>Dj a.iv b.iv) {a:At α} (ha:Tm a.frm∧Tm a.til∧(a.gap=false→a.til=a.frm)∧(a.gap=true→tk a.frm < tk a.til))
 {v w:U α} (hv:v∈u) (hw:w∈u) (h1:aT v.iv a.frm a.til a.gap=true) (h2:aT w.iv a.frm a.til a.gap=true):v=w:=by
 rcases xy (fun a b h=>Dj.symm h) hD v hv w hw with e | h
 ·exact e
 ·exfalso
  unfold Dj at h
  cases hg:a.gap with
  | false =>
   rw [hg,ha.2.2.1 hg,mB (hW v hv).1 ha.1,decide_eq_true_eq] at h1
   rw [hg,ha.2.2.1 hg,mB (hW w hw).1 ha.1,decide_eq_true_eq] at h2
   omega
  | true =>
   have hlt:=ha.2.2.2 hg
   rw [hg,mQ (hW v hv).1 ha.1 ha.2.1,decide_eq_true_eq] at h1
   rw [hg,mQ (hW w hw).1 ha.1 ha.2.1,decide_eq_true_eq] at h2
   omega
theorem rM {u:List (U α)} (hW:∀ x∈u,Wv x.iv) (hD:u.Pairwise fun a b=>Dj a.iv b.iv) {a:At α} (ha:Tm a.frm∧Tm a.til∧(a.gap=false→a.til=a.frm)∧(a.gap=true→tk a.frm < tk a.til))
 {v:U α} (hv:v∈u) (h1:aT v.iv a.frm a.til a.gap=true):kz u a=⟨a.frm,a.til,a.gap,true,v.f⟩ :=
 pV (fun w hw h2=>by rw [x4 hW hD ha hv hw h1 h2]) (.inr ⟨v,hv,h1⟩)
theorem va {u:List (U α)} {a:At α} (ha:a.has=false) (h:(kz u a).has=true):∃ v∈u,aT v.iv a.frm a.til a.gap=true:=by
 by_cases hx:∃ v∈u,aT v.iv a.frm a.til a.gap=true
 ·exact hx
 ·rw [te (fun v hv=>by
   cases hb:aT v.iv a.frm a.til a.gap with
   | false=>rfl
   | true=>exact absurd ⟨v,hv,hb⟩ hx)] at h
  rw [ha] at h; cases h
theorem xR {z:α} {u:List (U α)} (hW:∀ x∈u,Wv x.iv) (hD:u.Pairwise fun a b=>Dj a.iv b.iv) {E:List GR} (hE:Ts E) (hm:∀ y,y∈E↔∃ i∈u.map (·.iv),y=i.lo∨y=i.hi) {w:U α} :
 w∈((iJ z u E).filter (·.has)).map toU↔∃ v∈u,w∈atU v:=by
 have hend:∀ v∈u,∀ t∈E,¬ (tk v.iv.lo < tk t∧tk t < tk v.iv.hi):=fun v hv t ht=>by
  obtain ⟨i,hi,ht⟩:=(hm t).1 ht
  obtain ⟨x,hx,rfl⟩:=List.mem_map.1 hi
  exact end_out (hW v hv) (hW x hx) ((xy (fun a b h=>Dj.symm h) hD v hv x hx).imp (fun e=>by rw [e]) id) ht
 have hlo:∀ v∈u,v.iv.lo∈E:=fun v hv=>(hm _).2 ⟨_,List.mem_map_of_mem hv,.inl rfl⟩
 have hhi:∀ v∈u,v.iv.hi∈E:=fun v hv=>(hm _).2 ⟨_,List.mem_map_of_mem hv,.inr rfl⟩
 have okP:∀ t∈E,Tm (ptA z t).frm∧Tm (ptA z t).til∧((ptA z t).gap=false→(ptA z t).til=(ptA z t).frm)∧((ptA z t).gap=true→tk (ptA z t).frm < tk (ptA z t).til):=fun t ht=>⟨hE.1 t ht,hE.1 t ht,fun _=>rfl,fun h=>(by cases h)⟩
 have okG:∀ t∈E,∀ t'∈E,tk t < tk t'→Tm (qR z t t').frm∧Tm (qR z t t').til∧((qR z t t').gap=false→(qR z t t').til=(qR z t t').frm)∧((qR z t t').gap=true→tk (qR z t t').frm < tk (qR z t t').til):=fun t ht t' ht' h=>⟨hE.1 t ht,hE.1 t' ht',fun h=>(by cases h),fun _=>h⟩
 constructor
 ·intro h
  obtain ⟨b,hb,rfl⟩:=List.mem_map.1 h
  obtain ⟨hb,hhas⟩:=List.mem_filter.1 hb
  obtain ⟨a,ha,rfl⟩:=List.mem_map.1 hb
  rcases ko.1 ha with ⟨t,ht,rfl⟩ | ⟨t,t',hn,rfl⟩
  ·obtain ⟨v,hv,hin⟩:=va rfl hhas
   rw [rM hW hD (okP t ht) hv hin]
   have hin':=hin
   rw [show aT v.iv (ptA z t).frm (ptA z t).til (ptA z t).gap=aT v.iv t t false from rfl,mB (hW v hv).1 (hE.1 t ht),decide_eq_true_eq] at hin'
   refine ⟨v,hv,rC.2 ?_⟩
   have hs:=hend v hv t ht
   have hwv:=hW v hv
   rw [ky hwv.1]
   have fb:=fst_b v.iv
   have lb:=xV v.iv
   by_cases e:tk v.iv.lo=tk t
   ·have e2:=(hwv.1.1.inj (hE.1 t ht)).1 e
    refine .inl ⟨?_,by rw [e2]; rfl⟩
    cases ho:v.iv.openLo with
    | false=>rfl
    | true=>unfold dL ec at hin'; rw [ho] at hin'; simp at hin'; omega
   ·have e3:tk v.iv.hi=tk t:=by omega
    have e2:=(hwv.1.2.inj (hE.1 t ht)).1 e3
    refine .inr (.inr ⟨decide_eq_false og,?_,by rw [e2]; rfl⟩)
    cases ho:v.iv.openHi with
    | false=>rfl
    | true=>unfold dL ec at hin'; rw [ho] at hin'; simp at hin'; omega
  ·obtain ⟨ht,ht',hlt,hbt⟩:=(ru hE).1 hn
   obtain ⟨v,hv,hin⟩:=va rfl hhas
   rw [rM hW hD (okG t ht t' ht' hlt) hv hin]
   have hin':=hin
   rw [show aT v.iv (qR z t t').frm (qR z t t').til (qR z t t').gap=aT v.iv t t' true from rfl,mQ (hW v hv).1 (hE.1 t ht) (hE.1 t' ht'),decide_eq_true_eq] at hin'
   refine ⟨v,hv,rC.2 ?_⟩
   have hwv:=hW v hv
   have hs:=hend v hv t ht
   have hs':=hend v hv t' ht'
   have fb:=fst_b v.iv
   have lb:=xV v.iv
   have e1:tk v.iv.lo=tk t:=by omega
   have e2:tk v.iv.hi=tk t':=by omega
   rw [ky hwv.1]
   refine .inr (.inl ⟨decide_eq_false og,?_⟩)
   rw [(hwv.1.1.inj (hE.1 t ht)).1 e1,(hwv.1.2.inj (hE.1 t' ht')).1 e2]
   rfl
 ·rintro ⟨v,hv,hw⟩
  have hwv:=hW v hv
  have hle:=hwv.le
  rw [rC,ky hwv.1] at hw
  have fin:∀ a:At α,a∈f7 z E→(Tm a.frm∧Tm a.til∧(a.gap=false→a.til=a.frm)∧(a.gap=true→tk a.frm < tk a.til))→aT v.iv a.frm a.til a.gap=true→(⟨⟨a.frm,a.til,a.gap,a.gap⟩,v.f⟩:U α)∈((iJ z u E).filter (·.has)).map toU:=fun a h1 h2 h3=>by
   refine List.mem_map.2 ⟨kz u a,List.mem_filter.2 ⟨List.mem_map_of_mem h1,?_⟩,?_⟩
   ·rw [rM hW hD h2 hv h3]
   ·rw [rM hW hD h2 hv h3]; rfl
  rcases hw with ⟨ho,rfl⟩ | ⟨hi,rfl⟩ | ⟨hi,ho,rfl⟩
  ·refine fin (ptA z v.iv.lo) (ko.2 (.inl ⟨_,hlo v hv,rfl⟩)) (okP _ (hlo v hv)) ?_
   show aT v.iv v.iv.lo v.iv.lo false=true
   rw [mB hwv.1 hwv.1.1,decide_eq_true_eq]
   unfold dL at hle ⊢
   rw [ho] at hle ⊢
   simp at hle ⊢
   exact hle
  ·have hne:=of_decide_eq_false hi
   have hlt:tk v.iv.lo < tk v.iv.hi:=by have:=hwv.2.1; omega
   refine fin (qR z v.iv.lo v.iv.hi) (ko.2 (.inr ⟨_,_,(ru hE).2 ⟨hlo v hv,hhi v hv,hlt,fun x hx=>hend v hv x hx⟩,rfl⟩)) (okG _ (hlo v hv) _ (hhi v hv) hlt) ?_
   show aT v.iv v.iv.lo v.iv.hi true=true
   rw [mQ hwv.1 hwv.1.1 hwv.1.2,decide_eq_true_eq]
   unfold dL ec
   cases v.iv.openLo <;> cases v.iv.openHi <;> simp <;> omega
  ·refine fin (ptA z v.iv.hi) (ko.2 (.inl ⟨_,hhi v hv,rfl⟩)) (okP _ (hhi v hv)) ?_
   show aT v.iv v.iv.hi v.iv.hi false=true
   rw [mB hwv.1 hwv.1.2,decide_eq_true_eq]
   unfold ec at hle ⊢
   rw [ho] at hle ⊢
   simp at hle ⊢
   omega
end
end Go.Sx
namespace Go.Sx
section
variable {α:Type}
theorem gD:∀ (u:List (U α)) (a:At α),(kz u a).frm=a.frm∧(kz u a).gap=a.gap∧(kz u a).til=a.til
 | [],_=>⟨rfl,rfl,rfl⟩
 | x::u,a=>by
  obtain ⟨h1,h2,h3⟩:=gD u (lx x a)
  have e:(lx x a).frm=a.frm∧(lx x a).gap=a.gap∧(lx x a).til=a.til:=by
   unfold lx
   cases aT x.iv a.frm a.til a.gap <;> exact ⟨rfl,rfl,rfl⟩
  exact ⟨h1.trans e.1,h2.trans e.2.1,h3.trans e.2.2⟩
theorem toU_pl (a:At α):dL (toU a).iv=plA a:=by unfold dL plA toU; cases a.gap <;> rfl
theorem yd (u:List (U α)) (a:At α):plA (kz u a)=plA a:=by
 unfold plA
 rw [(gD u a).1,(gD u a).2.1]
theorem tD {z:α} {u:List (U α)} {E:List GR} (hE:Ts E):(((iJ z u E).filter (·.has)).map toU).Pairwise fun a b=>dL a.iv < dL b.iv:=by
 rw [List.pairwise_map]
 refine List.Pairwise.imp (fun {a b} h=>by rw [toU_pl,toU_pl]; exact h) (List.Pairwise.filter _ (R:=fun a b=>plA a < plA b) ?_)
 unfold iJ
 rw [List.pairwise_map]
 exact (qi (z:=z) hE.2).1.imp fun {a b} h=>by rw [yd,yd]; exact h
theorem atU_pl {v w:U α} (hv:Wv v.iv) (hw:w∈atU v):dL v.iv≤dL w.iv∧(dL w.iv:Int)≤ec v.iv:=by
 have hle:=hv.le
 have fb:=fst_b v.iv
 have lb:=xV v.iv
 rw [rC,ky hv.1] at hw
 rcases hw with ⟨ho,rfl⟩ | ⟨hi,rfl⟩ | ⟨hi,ho,rfl⟩
 ·have e:dL (ptU v.iv.lo v.f).iv=dL v.iv:=by unfold dL ptU; rw [ho]
  rw [e]; exact ⟨Nat.le_refl _,hle⟩
 ·have hne:=of_decide_eq_false hi
  have h1:=hv.2.1
  have e:dL (m7 v.iv.lo v.iv.hi v.f).iv=2*tk v.iv.lo+1:=by unfold dL m7; rfl
  rw [e]
  constructor
  ·omega
  ·omega
 ·have e:dL (ptU v.iv.hi v.f).iv=2*tk v.iv.hi:=by unfold dL ptU; rfl
  have e2:ec v.iv=2*tk v.iv.hi:=by unfold ec; rw [ho]; simp
  rw [e,e2]
  constructor
  ·omega
  ·omega
theorem ww {v:U α} (hv:Wv v.iv):(atU v).Pairwise fun a b=>dL a.iv < dL b.iv:=by
 have h1:=hv.2.1
 unfold atU
 rw [ky hv.1]
 by_cases e:tk v.iv.lo=tk v.iv.hi
 ·rw [decide_eq_true e]
  cases v.iv.openLo <;> simp
 ·rw [decide_eq_false e]
  cases v.iv.openLo <;> cases v.iv.openHi <;> simp [dL,ptU,m7] <;> omega
theorem atoms_eq {z:α} {u s:List (U α)} (hW:∀ x∈u,Wv x.iv) (hD:u.Pairwise fun a b=>Dj a.iv b.iv) (hp:s.Perm u) (hs:s.Pairwise fun a b=>kU a.iv≤kU b.iv) :
 s.flatMap atU=((iJ z u (kH (u.map (·.iv)))).filter (·.has)).map toU:=by
 obtain ⟨hE,hm⟩:=mT (l:=u.map (·.iv)) (fun i hi=>by obtain ⟨x,hx,rfl⟩:=List.mem_map.1 hi; exact (hW x hx).1)
 refine pw (k:=fun w=>dL w.iv) ?_ (tD hE) fun w=>?_
 ·rw [List.pairwise_flatMap]
  refine ⟨fun v hv=>ww (hW v (hp.mem_iff.1 hv)),?_⟩
  have hDs:s.Pairwise fun a b=>Dj a.iv b.iv:=(hp.pairwise_iff fun {a b} h=>Dj.symm h).2 hD
  have hboth:=hs.and hDs
  refine hboth.imp_of_mem fun {a b} ha hb h x hx y hy=>?_
  have ha':=hW a (hp.mem_iff.1 ha)
  have hb':=hW b (hp.mem_iff.1 hb)
  obtain ⟨_,x2⟩:=atU_pl ha' hx
  obtain ⟨y1,_⟩:=atU_pl hb' hy
  have l1:=ha'.le
  have l2:=hb'.le
  have t1:=tM ha'.1.2
  have t2:=tM hb'.1.2
  obtain ⟨hk,hd⟩:=h
  have ek:∀ i:Iv,kU i=dL i*100000+tk i.hi:=fun i=>by unfold kU dL; rw [Nat.mul_comm 2]
  rw [ek,ek] at hk
  unfold Dj at hd
  omega
 ·rw [xR hW hD hE hm,List.mem_flatMap]
  constructor
  ·rintro ⟨v,hv,h⟩; exact ⟨v,hp.mem_iff.1 hv,h⟩
  ·rintro ⟨v,hv,h⟩; exact ⟨v,hp.mem_iff.2 hv,h⟩
end
end Go.Sx
namespace Go.Sx
theorem py {R:Type} {B:Nat→Nx Nat R} {n:Nat} {bad:Nat→Bool} {r:R} (h:∀ i,i < n→B i=bif bad i then .ret r else .go (i+1)) (ho:B n=.out n) :
 ∀ (k a:Nat),a≤n→n - a < k→(∀ i,a≤i→i < n→bad i=false)→bt B k a=.inl n
 | k+1,a,ha,hk,hb=>by
  by_cases e:a=n
  ·subst e; exact fD k ho
  ·have h1:=h a og
   rw [hb a (Nat.le_refl _) og,cond_false] at h1
   rw [eN k h1]
   exact py h ho k (a+1) og og fun i h1 h2=>hb i og h2
theorem uG {R:Type} {B:Nat→Nx Nat R} {n:Nat} {bad:Nat→Bool} {r:R} (h:∀ i,i < n→B i=bif bad i then .ret r else .go (i+1)) :
 ∀ (k a:Nat),n - a < k→(∃ i,a≤i∧i < n∧bad i=true)→bt B k a=.inr r
 | k+1,a,hk,⟨i,h1,h2,h3⟩=>by
  have e:=h a og
  cases hb:bad a with
  | true=>rw [hb,cond_true] at e; exact sQ k e
  | false =>
   rw [hb,cond_false] at e
   rw [eN k e]
   refine uG h k (a+1) og ⟨i,?_,h2,h3⟩
   by_cases e2:i=a
   ·subst e2; rw [hb] at h3; cases h3
   ·omega
end Go.Sx
namespace Go.Sx
section
variable {α:Type}
theorem kU_eq (i:Iv):kU i=dL i*100000+tk i.hi:=by unfold kU dL; rw [Nat.mul_comm 2]
theorem nA {u s:List (U α)} (hW:∀ x∈u,Wv x.iv) (hD:u.Pairwise fun a b=>Dj a.iv b.iv) (hp:s.Perm u) (hs:s.Pairwise fun a b=>kU a.iv≤kU b.iv):s.Pairwise fun a b=>ec a.iv < (dL b.iv:Int):=by
 have hDs:s.Pairwise fun a b=>Dj a.iv b.iv:=(hp.pairwise_iff fun {a b} h=>Dj.symm h).2 hD
 refine (hs.and hDs).imp_of_mem fun {a b} ha hb h=>?_
 have ha':=hW a (hp.mem_iff.1 ha)
 have hb':=hW b (hp.mem_iff.1 hb)
 have l1:=ha'.le
 have l2:=hb'.le
 have t1:=tM ha'.1.2
 have t2:=tM hb'.1.2
 obtain ⟨hk,hd⟩:=h
 rw [kU_eq,kU_eq] at hk
 unfold Dj at hd
 omega
theorem fL {β:Type} [Inhabited β] {l:List β} {i:Nat} (h:i < l.length):gt l i=l[i]:=by
 simp [gt,List.getD,List.getElem?_eq_getElem h]
theorem chain_pw [Inhabited (U α)] {s:List (U α)} (hW:∀ x∈s,Wv x.iv) (h:∀ i,0 < i→i < s.length→dI (gt s (i - 1)).iv (gt s i).iv=true):s.Pairwise fun a b=>ec a.iv < (dL b.iv:Int):=by
 rw [List.pairwise_iff_getElem]
 have key:∀ (d i:Nat) (hj:i+d+1 < s.length),ec (s[i]'(by omega)).iv < (dL s[i+d+1].iv:Int):=by
  intro d
  induction d with
  | zero =>
   intro i hj
   have h1:=h (i+1) og hj
   rw [fL hj,fL (by omega:i+1 - 1 < s.length),mI (hW _ (List.getElem_mem _)).1 (hW _ (List.getElem_mem _)).1,decide_eq_true_eq] at h1
   exact h1
  | succ d ih =>
   intro i hj
   have h0:=ih i og
   have hj':i+d+1+1 < s.length:=by omega
   have h1:=h (i+d+1+1) og hj'
   rw [fL hj',fL (by omega:i+d+1+1 - 1 < s.length),mI (hW _ (List.getElem_mem _)).1 (hW _ (List.getElem_mem _)).1,decide_eq_true_eq] at h1
   have h2:=(hW (s[i+d+1]'(by omega)) (List.getElem_mem _)).le
   have h3:ec (s[i+d+1]'(by omega)).iv < (dL s[i+d+1+1].iv:Int):=h1
   have h4:(dL (s[i+d+1]'(by omega)).iv:Int) < dL s[i+d+1+1].iv:=by omega
   exact Int.lt_trans h0 h4
 intro i j hi hj hij
 have:=key (j - i - 1) i og
 simpa only [show i+(j - i - 1)+1=j by omega] using this
theorem mV [Inhabited (U α)] {u s:List (U α)} (hW:∀ x∈u,Wv x.iv) (hp:s.Perm u) (hs:s.Pairwise fun a b=>kU a.iv≤kU b.iv) :
 (∀ i,0 < i→i < s.length→dI (gt s (i - 1)).iv (gt s i).iv=true)↔u.Pairwise fun a b=>Dj a.iv b.iv:=by
 constructor
 ·intro h
  have:=chain_pw (fun x hx=>hW x (hp.mem_iff.1 hx)) h
  exact (hp.pairwise_iff fun {a b} h=>Dj.symm h).1 (this.imp fun h=>.inl h)
 ·intro h i h0 h1
  have hd:=nA hW h hp hs
  rw [List.pairwise_iff_getElem] at hd
  have:=hd (i - 1) i og h1 og
  rw [fL h1,fL (by omega:i - 1 < s.length),mI (hW _ (hp.mem_iff.1 (List.getElem_mem _))).1 (hW _ (hp.mem_iff.1 (List.getElem_mem _))).1,decide_eq_true_eq]
  exact this
end
end Go.Sx
namespace Go.Sx
theorem rX {α:Type} {z:α} {E:List GR} (hE:Ts E) {a:At α} (ha:a∈f7 z E):Tm a.frm∧Tm a.til∧(a.gap=false→a.til=a.frm)∧(a.gap=true→tk a.frm < tk a.til):=by
 rcases ko.1 ha with ⟨t,ht,rfl⟩ | ⟨t,t',hn,rfl⟩
 ·exact ⟨hE.1 t ht,hE.1 t ht,fun _=>rfl,fun h=>(by cases h)⟩
 ·obtain ⟨h1,h2,h3,_⟩:=(ru hE).1 hn
  exact ⟨hE.1 t h1,hE.1 t' h2,fun h=>(by cases h),fun _=>h3⟩
end Go.Sx
namespace Go.Sx
theorem tk_at (n:Nat) (r:Bool) (hn:n < 45):tk (ae (n:Int) r)=10*n+10+(bif r then 14 else 0):=by
 have h:((List.range 45).all fun i=>(tk (ae (Int.ofNat i) false) == 10*i+10) && (tk (ae (Int.ofNat i) true) == 10*i+10+14))=true:=by decide +kernel
 have h1:=List.all_eq_true.1 h n (List.mem_range.2 hn)
 simp only [Bool.and_eq_true,beq_iff_eq] at h1
 cases r
 ·exact h1.1
 ·exact h1.2
theorem tm_at (n:Nat) (r:Bool) (hn:n < 45):Tm (ae (n:Int) r):=⟨n,r,by omega,rfl⟩
end Go.Sx
namespace Go.Sx
section
variable {α:Type} [Inhabited α] (eqf:α→α→Bool) (same:α→α→GR→Bool) (red:α→GR→α)
def tC (L out:List (U α)) (x:Nat):Bool:=(decide ((out.length:Int)>0) && decide ((gt out (out.length - 1)).iv.hi=(gt L x).iv.lo)) && !(aN (gt out (out.length - 1)).iv)
def lr (out:List (U α)) (t:GR):Bool:=(decide ((out.length:Int)>0) && decide ((gt out (out.length - 1)).iv.hi=t)) && !((gt out (out.length - 1)).iv.openHi)
def jo (L out:List (U α)) (x:Nat):List (U α) :=
 bif ((((decide ((x:Int)>0)) && (aN ((gt L (x - 1)).iv))) && (decide (((gt L (x - 1)).iv).lo=((gt L x).iv).lo))) && (!(lr out (((gt L x).iv).lo)))) then
  out++[(⟨(⟨((gt L x).iv).lo,((gt L x).iv).hi,false,((gt L x).iv).openHi⟩:Iv),(gt L x).f⟩:U α)]
 else out++[gt L x]
def ku (L out:List (U α)) (x:Nat):List (U α) :=
 bif (((decide (((x+1:Nat):Int) < (L.length:Int))) && (decide (((gt L (x+1)).iv).lo=((gt L x).iv).lo))) && (same ((gt L (x+1)).f) ((gt L x).f) (((gt L x).iv).lo))) then out
 else out++[(⟨(gt L x).iv,(red ((gt L x).f) (((gt L x).iv).lo))⟩:U α)]
def du (L out:List (U α)) (x:Nat):List (U α) :=
 bif tC L out x then
  bif (!(aN ((gt L x).iv))) then
   bif ((!((gt out (out.length - 1)).iv).openHi) && (eqf ((gt out (out.length - 1)).f) ((gt L x).f))) then
    out.set (out.length - 1) (⟨(⟨((gt out (out.length - 1)).iv).lo,((gt L x).iv).hi,((gt out (out.length - 1)).iv).openLo,true⟩:Iv),(gt out (out.length - 1)).f⟩:U α)
   else jo L out x
  else
   bif (same ((gt out (out.length - 1)).f) ((gt L x).f) (((gt L x).iv).lo)) then
    out.set (out.length - 1) (⟨(⟨((gt out (out.length - 1)).iv).lo,((gt out (out.length - 1)).iv).hi,((gt out (out.length - 1)).iv).openLo,false⟩:Iv),(gt out (out.length - 1)).f⟩:U α)
   else ku same red L out x
 else
  bif (!(aN ((gt L x).iv))) then jo L out x else ku same red L out x
def eR (l:List (At α)) (out:List (U α)) (i:Nat):List (U α) :=
 bif (!(gt l i).has) then out
 else bif (gt l i).gap then
  bif (((((decide ((i:Int)≥2)) && (gt l (i - 2)).has) && (gt l (i - 1)).has) && (same ((gt l (i - 2)).f) ((gt l (i - 1)).f) ((gt l i).frm))) && (eqf ((gt l (i - 2)).f) ((gt l i).f))) then
   out.set (out.length - 1) (⟨(⟨((gt out (out.length - 1)).iv).lo,(gt l i).til,((gt out (out.length - 1)).iv).openLo,true⟩:Iv),(gt out (out.length - 1)).f⟩:U α)
  else
   out++[(⟨(⟨(gt l i).frm,(gt l i).til,(!(((gt l (i - 1)).has && (same ((gt l i).f) ((gt l (i - 1)).f) ((gt l i).frm))) && (!(((decide ((i:Int)≥2)) && (gt l (i - 2)).has) && (same ((gt l (i - 2)).f) ((gt l (i - 1)).f) ((gt l i).frm)))))),true⟩:Iv),(gt l i).f⟩:U α)]
 else
  bif (((decide ((i:Int)>0)) && (gt l (i - 1)).has) && (same ((gt l (i - 1)).f) ((gt l i).f) ((gt l i).frm))) then
   out.set (out.length - 1) (⟨(⟨((gt out (out.length - 1)).iv).lo,((gt out (out.length - 1)).iv).hi,((gt out (out.length - 1)).iv).openLo,false⟩:Iv),(gt out (out.length - 1)).f⟩:U α)
  else
   bif (((decide (((i+1:Nat):Int) < (l.length:Int))) && (gt l (i+1)).has) && (same ((gt l (i+1)).f) ((gt l i).f) ((gt l i).frm))) then out
   else out++[(⟨(⟨(gt l i).frm,(gt l i).til,false,false⟩:Iv),(red ((gt l i).f) ((gt l i).frm))⟩:U α)]
end
theorem ui {S R:Type} {b:Bool} {X Y:Nx (S×Nat) R} {p q:S} {k:Nat} (h1:X=.go (p,k)) (h2:Y=.go (q,k)):(bif b then X else Y)=.go (bif b then p else q,k):=by cases b <;> assumption
end Go.Sx
namespace Go.Sx
def et {β:Type} (st:β→Nat→β) (o:β):Nat→β
 | 0=>o
 | n+1=>st (et st o n) n
theorem pM {β R:Type} {st:β→Nat→β} {o:β} {n:Nat} {B:β×Nat→Nx (β×Nat) R} (hgo:∀ o i,i < n→B (o,i)=.go (st o i,i+1)) (hout:∀ o,B (o,n)=.out (o,n)) :
 ∀ (k i:Nat),i≤n→n - i < k→bt B k (et st o i,i)=.inl (et st o n,n)
 | k+1,i,hi,hk=>by
  by_cases e:i=n
  ·subst e; exact fD k (hout _)
  ·rw [eN k (hgo _ i og)]
   exact pM hgo hout k (i+1) og og
end Go.Sx
namespace Go.Sx
section
variable {α:Type} [Inhabited α]
def kE (A:List (At α)):List (U α):=(A.filter (·.has)).map toU
def i9 (A:List (At α)) (i:Nat):Nat:=((A.take i).filter (·.has)).length
omit [Inhabited α] in
theorem rS (A:List (At α)):i9 A A.length=(kE A).length:=by unfold i9 kE; rw [List.take_length,List.length_map]
theorem wH {A:List (At α)} {i:Nat} (h:i < A.length):A.take (i+1)=A.take i++[gt A i]:=by
 rw [fL h,List.take_append_getElem]
theorem pk {A:List (At α)} {i:Nat} (h:i < A.length) (hh:(gt A i).has=true):i9 A (i+1)=i9 A i+1:=by
 unfold i9; rw [wH h,List.filter_append,List.filter_cons,if_pos hh]; simp
theorem rR {A:List (At α)} {i:Nat} (h:i < A.length) (hh:(gt A i).has=false):i9 A (i+1)=i9 A i:=by
 unfold i9; rw [wH h,List.filter_append,List.filter_cons,if_neg (by rw [hh]; decide)]; simp
omit [Inhabited α] in
theorem we {A:List (At α)} (i:Nat):kE A=((A.take i).filter (·.has)).map toU++((A.drop i).filter (·.has)).map toU:=by
 unfold kE; rw [← List.map_append,← List.filter_append,List.take_append_drop]
theorem ou {A:List (At α)} {i:Nat} (h:i < A.length) (hh:(gt A i).has=true):i9 A i < (kE A).length∧gt (kE A) (i9 A i)=toU (gt A i):=by
 have e:A.drop i=gt A i::A.drop (i+1):=by rw [fL h]; exact List.drop_eq_getElem_cons h
 have e2:=we (A:=A) i
 rw [e,List.filter_cons,if_pos hh,List.map_cons] at e2
 have hl:i9 A i=(((A.take i).filter (·.has)).map toU).length:=by rw [List.length_map]; rfl
 rw [e2,hl]
 refine ⟨by simp,ow rfl⟩
end
end Go.Sx
namespace Go.Sx
section
variable {α:Type} [Inhabited (At α)]
omit [Inhabited (At α)] in
theorem yX {z:α} {t:GR} {r:List GR}:∃ q,f7 z (t::r)=ptA z t::q:=by
 cases r with
 | nil=>exact ⟨[],rfl⟩
 | cons t' r=>exact ⟨_,rfl⟩
theorem rY {z:α}:∀ {ts:List GR} (i:Nat),i < (f7 z ts).length→(gt (f7 z ts) i).gap=decide (i % 2=1)∧(i+1 < (f7 z ts).length→(gt (f7 z ts) (i+1)).frm=(gt (f7 z ts) i).til)
 | [],i,h=>absurd h (Nat.not_lt_zero _)
 | [t],0,_=>⟨rfl,fun h=>absurd h (by simp [f7])⟩
 | [t],i+1,h=>absurd h (by simp [f7])
 | t::t'::r,0,_=>⟨rfl,fun _=>rfl⟩
 | t::t'::r,1,_=>by
  obtain ⟨q,hq⟩:=yX (z:=z) (t:=t') (r:=r)
  refine ⟨rfl,fun _=>?_⟩
  show (gt (f7 z (t'::r)) 0).frm=t'
  rw [hq]; rfl
 | t::t'::r,i+2,h=>by
  have ih:=rY (z:=z) (ts:=t'::r) i (by simpa [f7] using h)
  refine ⟨?_,fun h2=>ih.2 (by simp [f7] at h2; omega)⟩
  show (gt (f7 z (t'::r)) i).gap=_
  rw [ih.1,Nat.add_mod_right]
end
end Go.Sx
namespace Go.Sx
structure Turns {α:Type} [Inhabited α] (pl:GR→Nat) (A:List (At α)):Prop where
 gap:∀ i,i < A.length→(gt A i).gap=decide (i % 2=1)
 adj:∀ i,i+1 < A.length→(gt A (i+1)).frm=(gt A i).til
 pt:∀ i,i < A.length→(gt A i).gap=false→(gt A i).til=(gt A i).frm
 lt:∀ i,i < A.length→(gt A i).gap=true→pl (gt A i).frm < pl (gt A i).til
section
variable {α:Type} [Inhabited α] {pl:GR→Nat} {A:List (At α)}
theorem Turns.odd (h:Turns pl A) {i:Nat} (hi:i < A.length) (ho:i % 2=1):(gt A i).gap=true:=by rw [h.gap i hi]; exact decide_eq_true ho
theorem Turns.even (h:Turns pl A) {i:Nat} (hi:i < A.length) (ho:i % 2=0):(gt A i).gap=false:=by rw [h.gap i hi]; exact decide_eq_false og
theorem Turns.le1 (h:Turns pl A) {i:Nat} (hi:i < A.length):pl (gt A i).frm≤pl (gt A i).til:=by
 cases hg:(gt A i).gap with
 | false=>rw [h.pt i hi hg]; exact Nat.le_refl _
 | true=>exact Nat.le_of_lt (h.lt i hi hg)
theorem Turns.mono (h:Turns pl A) {i:Nat}:∀ (d:Nat),i+d+1 < A.length→pl (gt A i).til≤pl (gt A (i+d+1)).frm
 | 0,hd=>by rw [h.adj i hd]; exact Nat.le_refl _
 | d+1,hd=>by
  have h1:=Turns.mono h (i:=i) d og
  have h2:=h.le1 (by omega:i+d+1 < A.length)
  have h3:=h.adj (i+d+1) hd
  rw [show i+(d+1)+1=i+d+1+1 by omega,h3]
  omega
theorem Turns.mono' (h:Turns pl A) {i j:Nat} (hij:i < j) (hj:j < A.length):pl (gt A i).til≤pl (gt A j).frm:=by
 have:=h.mono (i:=i) (j - i - 1) og
 rwa [show i+(j - i - 1)+1=j by omega] at this
theorem uU:∀ (d i:Nat),A.length - i≤d→i≤A.length→i9 A i < (kE A).length→∃ j,i≤j∧j < A.length∧(gt A j).has=true∧i9 A j=i9 A i∧∀ k,i≤k→k < j→(gt A k).has=false
 | d,i,hd,hi,hc=>by
  by_cases e:i=A.length
  ·subst e; rw [rS] at hc; omega
  ·cases hh:(gt A i).has with
   | true=>exact ⟨i,Nat.le_refl _,by omega,hh,rfl,fun k h1 h2=>by omega⟩
   | false =>
    have h1:=rR (by omega:i < A.length) hh
    match d with
    | 0=>omega
    | d+1 =>
     obtain ⟨j,a1,a2,a3,a4,a5⟩:=uU d (i+1) og og (by rw [h1]; exact hc)
     refine ⟨j,by omega,a2,a3,by rw [a4,h1],fun k k1 k2=>?_⟩
     by_cases e:k=i
     ·subst e; exact hh
     ·exact a5 k og k2
theorem uP:∀ (i:Nat),i≤A.length→0 < i9 A i→∃ j,j < i∧(gt A j).has=true∧i9 A j+1=i9 A i∧∀ k,j < k→k < i→(gt A k).has=false
 | 0,_,hc=>by simp [i9] at hc
 | i+1,hi,hc=>by
  cases hh:(gt A i).has with
  | true=>exact ⟨i,Nat.lt_succ_self _,hh,(pk og hh).symm,fun k h1 h2=>by omega⟩
  | false =>
   have h1:=rR (by omega:i < A.length) hh
   obtain ⟨j,a1,a2,a3,a4⟩:=uP i og (by rw [← h1]; exact hc)
   refine ⟨j,by omega,a2,by rw [a3,h1],fun k k1 k2=>?_⟩
   by_cases e:k=i
   ·subst e; exact hh
   ·exact a4 k k1 og
variable (eqf:α→α→Bool) (same:α→α→GR→Bool) (red:α→GR→α)
def lst (out:List (U α)):U α:=gt out (out.length - 1)
theorem jN (out:List (U α)) (x:U α):lst (out++[x])=x:=by
 unfold lst
 rw [List.length_append,List.length_singleton,Nat.add_sub_cancel,rJ]
theorem ub {out:List (U α)} (h:0 < out.length) (x:U α):lst (out.set (out.length - 1) x)=x:=by
 unfold lst
 rw [List.length_set]
 exact s0 og
theorem iY {L out:List (U α)} {x:Nat}:tC L out x=true↔0 < out.length∧(lst out).iv.hi=(gt L x).iv.lo∧(lst out).iv.lo≠(lst out).iv.hi:=by
 unfold tC lst aN
 simp only [Bool.and_eq_true,decide_eq_true_eq,Bool.not_eq_true',decide_eq_false_iff_not,ne_eq]
 constructor
 ·rintro ⟨⟨h1,h2⟩,h3⟩; exact ⟨by omega,h2,h3⟩
 ·rintro ⟨h1,h2,h3⟩; exact ⟨⟨by omega,h2⟩,h3⟩
theorem ic {out:List (U α)} {t:GR}:lr out t=true↔0 < out.length∧(lst out).iv.hi=t∧(lst out).iv.openHi=false:=by
 unfold lr lst
 simp only [Bool.and_eq_true,decide_eq_true_eq,Bool.not_eq_true']
 constructor
 ·rintro ⟨⟨h1,h2⟩,h3⟩; exact ⟨by omega,h2,h3⟩
 ·rintro ⟨h1,h2,h3⟩; exact ⟨⟨by omega,h2⟩,h3⟩
def InvE (pl:GR→Nat) (A:List (At α)) (out:List (U α)) (i:Nat):Prop :=
 ((0 < i∧(gt A (i - 1)).has=true)→0 < out.length∧(lst out).iv.hi=(gt A (i - 1)).til∧(lst out).iv.openHi=true∧pl (lst out).iv.lo < pl (lst out).iv.hi∧(lst out).f=(gt A (i - 1)).f) ∧
 (¬ (0 < i∧(gt A (i - 1)).has=true)→out.length=0∨(0 < i∧pl (lst out).iv.hi≤pl (gt A (i - 1)).frm))
def mgd (A:List (At α)) (i:Nat):Prop:=(gt A i).has=true∧0 < i∧(gt A (i - 1)).has=true∧same (gt A (i - 1)).f (gt A i).f (gt A i).frm=true
def lft (A:List (At α)) (i:Nat):Prop:=i+1 < A.length∧(gt A (i+1)).has=true∧same (gt A (i+1)).f (gt A i).f (gt A i).frm=true
def InvO (pl:GR→Nat) (A:List (At α)) (out:List (U α)) (i:Nat):Prop :=
 (mgd same A i→0 < out.length∧(lst out).iv.hi=(gt A i).frm∧(lst out).iv.openHi=false∧pl (lst out).iv.lo < pl (lst out).iv.hi∧(lst out).f=(gt A (i - 1)).f) ∧
 (¬ mgd same A i→((gt A i).has=false∨lft same A i)→InvE pl A out i) ∧
 (¬ mgd same A i→(gt A i).has=true→¬ lft same A i→0 < out.length∧(lst out).iv.lo=(gt A i).frm∧(lst out).iv.hi=(gt A i).frm∧(lst out).iv.openHi=false∧(lst out).f=red (gt A i).f (gt A i).frm)
variable {eqf same red}
theorem InvE.le (hA:Turns pl A) {out:List (U α)} {i:Nat} (hi:i < A.length) (h:InvE pl A out i):out.length=0∨pl (lst out).iv.hi≤pl (gt A i).frm:=by
 by_cases c:0 < i∧(gt A (i - 1)).has=true
 ·have e:=hA.adj (i - 1) og
  rw [show i - 1+1=i by omega] at e
  rw [(h.1 c).2.1,e]; exact .inr (Nat.le_refl _)
 ·rcases h.2 c with h1 | ⟨h0,h1⟩
  ·exact .inl h1
  ·have h2:=hA.mono' (by omega:i - 1 < i) hi
   have h3:=hA.le1 (by omega:i - 1 < A.length)
   exact .inr og
theorem InvO.le (hA:Turns pl A) {out:List (U α)} {i:Nat} (hi:i < A.length) (h:InvO same red pl A out i):out.length=0∨pl (lst out).iv.hi≤pl (gt A i).frm:=by
 by_cases m:mgd same A i
 ·rw [(h.1 m).2.1]; exact .inr (Nat.le_refl _)
 ·by_cases c:(gt A i).has=false∨lft same A i
  ·exact (h.2.1 m c).le hA hi
  ·have c1:(gt A i).has=true:=by cases hh:(gt A i).has with
    | true=>rfl
    | false=>exact absurd (.inl hh) c
   rw [(h.2.2 m c1 fun h=>c (.inr h)).2.2.1]; exact .inr (Nat.le_refl _)
theorem pt_step (hA:Turns pl A) {out:List (U α)} {i:Nat} (hi:i < A.length) (he:i % 2=0) (hh:(gt A i).has=true) (h:InvE pl A out i) :
 du eqf same red (kE A) out (i9 A i)=eR eqf same red A out i∧InvO same red pl A (eR eqf same red A out i) i:=by
 have hg:=hA.even hi he
 have hp:=hA.pt i hi hg
 obtain ⟨hc,hx⟩:=ou hi hh
 have hv:(gt (kE A) (i9 A i)).iv=⟨(gt A i).frm,(gt A i).frm,false,false⟩:=by rw [hx]; unfold toU; rw [hg,hp]
 have hf:(gt (kE A) (i9 A i)).f=(gt A i).f:=by rw [hx]; rfl
 have hins:aN ⟨(gt A i).frm,(gt A i).frm,false,false⟩=true:=decide_eq_true rfl
 have e0:i9 A (i+1)=i9 A i+1:=pk hi hh
 have hnext:(decide (((i9 A i+1:Nat):Int) < ((kE A).length:Int)) && decide ((gt (kE A) (i9 A i+1)).iv.lo=(gt A i).frm) && same (gt (kE A) (i9 A i+1)).f (gt A i).f (gt A i).frm)
  = (decide (((i+1:Nat):Int) < (A.length:Int)) && (gt A (i+1)).has && same (gt A (i+1)).f (gt A i).f (gt A i).frm):=by
  by_cases hn:i+1 < A.length
  ·rw [decide_eq_true (by omega:((i+1:Nat):Int) < (A.length:Int)),Bool.true_and]
   have hgn:=hA.odd hn og
   cases hb:(gt A (i+1)).has with
   | true =>
    obtain ⟨k1,k2⟩:=ou hn hb
    rw [e0] at k1 k2
    rw [decide_eq_true (by omega:((i9 A i+1:Nat):Int) < ((kE A).length:Int)),k2]
    rw [show (toU (gt A (i+1))).iv.lo=(gt A i).frm by unfold toU; rw [hA.adj i hn,hp],decide_eq_true rfl]
    rfl
   | false =>
    rw [Bool.false_and]
    by_cases hl:i9 A i+1 < (kE A).length
    ·have e1:=rR hn hb
     obtain ⟨j,j1,j2,j3,j4,j5⟩:=uU (A:=A) A.length (i+1+1) og og (by rw [e1,e0]; exact hl)
     obtain ⟨_,k2⟩:=ou j2 j3
     rw [j4,e1,e0] at k2
     have hne:(gt A j).frm≠(gt A i).frm:=fun e=>by
      have q1:=hA.mono' (by omega:i+1 < j) j2
      have q2:=hA.lt (i+1) hn hgn
      have q3:=hA.adj i hn
      rw [hp] at q3
      have q4:=congrArg pl q3
      have q5:=congrArg pl e
      omega
     rw [k2,show (toU (gt A j)).iv.lo=(gt A j).frm from rfl,decide_eq_false hne]
     simp
    ·rw [decide_eq_false (by omega:¬ ((i9 A i+1:Nat):Int) < ((kE A).length:Int))]
     rfl
  ·rw [decide_eq_false (by omega:¬ ((i+1:Nat):Int) < (A.length:Int))]
   have e2:i+1=A.length:=by omega
   rw [e2,rS] at e0
   rw [decide_eq_false (by omega:¬ ((i9 A i+1:Nat):Int) < ((kE A).length:Int))]
   rfl
 by_cases m:mgd same A i
 ·obtain ⟨m1,m2,m3,m4⟩:=m
  obtain ⟨a1,a2,a3,a4,a5⟩:=h.1 ⟨m2,m3⟩
  have ea:=hA.adj (i - 1) og
  rw [show i - 1+1=i by omega] at ea
  have hb:tC (kE A) out (i9 A i)=true:=iY.2 ⟨a1,by rw [a2,hv,ea],fun e=>by rw [e] at a4; omega⟩
  have e1:du eqf same red (kE A) out (i9 A i)=out.set (out.length - 1) ⟨⟨(lst out).iv.lo,(lst out).iv.hi,(lst out).iv.openLo,false⟩,(lst out).f⟩:=by
   unfold du
   rw [hb,cond_true,hv,hins,Bool.not_true,cond_false,hf]
   rw [show same (gt out (out.length - 1)).f (gt A i).f (gt A i).frm=true from by rw [show (gt out (out.length - 1)).f=(gt A (i - 1)).f from a5]; exact m4,cond_true]
   rfl
  have e2:eR eqf same red A out i=out.set (out.length - 1) ⟨⟨(lst out).iv.lo,(lst out).iv.hi,(lst out).iv.openLo,false⟩,(lst out).f⟩:=by
   unfold eR
   rw [hh,Bool.not_true,cond_false,hg,cond_false,decide_eq_true (by omega:(i:Int)>0),m3,m4,Bool.and_self,Bool.and_self,cond_true]
   rfl
  refine ⟨e1.trans e2.symm,?_⟩
  rw [e2]
  refine ⟨fun _=>?_,fun k=>absurd ⟨m1,m2,m3,m4⟩ k,fun k=>absurd ⟨m1,m2,m3,m4⟩ k⟩
  rw [ub a1,List.length_set]
  exact ⟨a1,by rw [ea]; exact a2,rfl,a4,a5⟩
 ·
  have hmb:((decide ((i:Int)>0) && (gt A (i - 1)).has) && same (gt A (i - 1)).f (gt A i).f (gt A i).frm)=false:=by
   cases hq:((decide ((i:Int)>0) && (gt A (i - 1)).has) && same (gt A (i - 1)).f (gt A i).f (gt A i).frm) with
   | false=>rfl
   | true =>
    simp only [Bool.and_eq_true,decide_eq_true_eq] at hq
    exact absurd ⟨hh,by omega,hq.1.2,hq.2⟩ m
  have e1:du eqf same red (kE A) out (i9 A i)=ku same red (kE A) out (i9 A i):=by
   unfold du
   rw [hv,hins,Bool.not_true,cond_false,cond_false,hf]
   cases hb:tC (kE A) out (i9 A i) with
   | false=>rfl
   | true =>
    rw [cond_true]
    obtain ⟨b1,b2,b3⟩:=iY.1 hb
    rw [hv] at b2
    have hs:same (gt out (out.length - 1)).f (gt A i).f (gt A i).frm=false:=by
     by_cases c:0 < i∧(gt A (i - 1)).has=true
     ·rw [show (gt out (out.length - 1)).f=(gt A (i - 1)).f from (h.1 c).2.2.2.2]
      cases hs:same (gt A (i - 1)).f (gt A i).f (gt A i).frm with
      | false=>rfl
      | true=>exact absurd ⟨hh,c.1,c.2,hs⟩ m
     ·rcases h.2 c with h1 | ⟨h0,h1⟩
      ·omega
      ·have q1:=hA.lt (i - 1) og (hA.odd og og)
       have q2:=hA.adj (i - 1) og
       rw [show i - 1+1=i by omega] at q2
       have q3:pl (lst out).iv.hi=pl (gt A i).frm:=congrArg pl b2
       rw [q2] at q3
       omega
    rw [hs,cond_false]
  have e2:eR eqf same red A out i=ku same red (kE A) out (i9 A i):=by
   unfold eR ku
   rw [hh,Bool.not_true,cond_false,hg,cond_false,hmb,cond_false,hv,hf]
   rw [hnext,hp]
  refine ⟨e1.trans e2.symm,?_⟩
  rw [e2]
  refine ⟨fun k=>absurd k m,fun _ hl=>?_,fun _ _ hl=>?_⟩
  ·have hl:lft same A i:=hl.elim (fun e=>by rw [hh] at e; cases e) id
   have e3:ku same red (kE A) out (i9 A i)=out:=by
    unfold ku
    rw [hv,hf,hnext,decide_eq_true (by have:=hl.1; omega:((i+1:Nat):Int) < (A.length:Int)),hl.2.1,hl.2.2]
    rfl
   rw [e3]; exact h
  ·have hlb:(decide (((i+1:Nat):Int) < (A.length:Int)) && (gt A (i+1)).has && same (gt A (i+1)).f (gt A i).f (gt A i).frm)=false:=by
    cases hq:(decide (((i+1:Nat):Int) < (A.length:Int)) && (gt A (i+1)).has && same (gt A (i+1)).f (gt A i).f (gt A i).frm) with
    | false=>rfl
    | true =>
     simp only [Bool.and_eq_true,decide_eq_true_eq] at hq
     exact absurd ⟨by omega,hq.1.2,hq.2⟩ hl
   have e3:ku same red (kE A) out (i9 A i)=out++[⟨⟨(gt A i).frm,(gt A i).frm,false,false⟩,red (gt A i).f (gt A i).frm⟩]:=by
    unfold ku
    rw [hv,hf,hnext,hlb]
    rfl
   rw [e3,jN]
   exact ⟨by simp,rfl,rfl,rfl,rfl⟩
theorem gap_step (heq:∀ a b,eqf a b=true→a=b) (hA:Turns pl A) {out:List (U α)} {i:Nat} (hi:i+1 < A.length) (he:i % 2=0) (hh:(gt A (i+1)).has=true) (h:InvO same red pl A out i) :
 du eqf same red (kE A) out (i9 A (i+1))=eR eqf same red A out (i+1)∧InvE pl A (eR eqf same red A out (i+1)) (i+2):=by
 have hg:=hA.odd hi og
 have hlt:=hA.lt (i+1) hi hg
 have hgp:=hA.even (by omega:i < A.length) he
 have hpp:=hA.pt i og hgp
 have ea:=hA.adj i hi
 rw [hpp] at ea
 obtain ⟨hc,hx⟩:=ou hi hh
 have hv:(gt (kE A) (i9 A (i+1))).iv=⟨(gt A i).frm,(gt A (i+1)).til,true,true⟩:=by rw [hx]; unfold toU; rw [hg,ea]
 have hf:(gt (kE A) (i9 A (i+1))).f=(gt A (i+1)).f:=by rw [hx]; rfl
 have hins:aN ⟨(gt A i).frm,(gt A (i+1)).til,true,true⟩=false:=decide_eq_false fun e=>by
  have e:(gt A i).frm=(gt A (i+1)).til:=e
  rw [ea,e] at hlt; omega
 rw [ea] at hlt
 have happ:∀ b:Bool,InvE pl A (out++[⟨⟨(gt A i).frm,(gt A (i+1)).til,b,true⟩,(gt A (i+1)).f⟩]) (i+2):=fun b=>by
  refine ⟨fun _=>?_,fun k=>absurd ⟨by omega,hh⟩ k⟩
  rw [jN]
  exact ⟨by simp,rfl,rfl,hlt,rfl⟩
 have hngap:∀ b:Bool,((((decide (((i9 A (i+1):Nat):Int)>0)) && (aN ((gt (kE A) (i9 A (i+1) - 1)).iv))) && (decide (((gt (kE A) (i9 A (i+1) - 1)).iv).lo=(gt A i).frm))) && (!(lr out (gt A i).frm)))=b →
  jo (kE A) out (i9 A (i+1))=out++[⟨⟨(gt A i).frm,(gt A (i+1)).til,!b,true⟩,(gt A (i+1)).f⟩]:=fun b hb=>by
  unfold jo
  rw [hv,hb,hf,hx]
  cases b
  ·rw [cond_false]
   unfold toU
   rw [hg,ea]
   rfl
  ·rfl
 have hi2:(decide (((i+1:Nat):Int)≥2))=decide (0 < i):=decide_eq_decide.2 og
 by_cases m:mgd same A i
 ·obtain ⟨m1,m2,m3,m4⟩:=m
  obtain ⟨a1,a2,a3,a4,a5⟩:=h.1 ⟨m1,m2,m3,m4⟩
  have hb:tC (kE A) out (i9 A (i+1))=true:=iY.2 ⟨a1,by rw [a2,hv],fun e=>by rw [e] at a4; omega⟩
  cases hq:eqf (gt A (i - 1)).f (gt A (i+1)).f with
  | true =>
   have e1:du eqf same red (kE A) out (i9 A (i+1))=out.set (out.length - 1) ⟨⟨(lst out).iv.lo,(gt A (i+1)).til,(lst out).iv.openLo,true⟩,(lst out).f⟩:=by
    unfold du
    rw [hb,cond_true,hv,hins,Bool.not_false,cond_true,hf]
    rw [show (gt out (out.length - 1)).iv.openHi=false from a3,show (gt out (out.length - 1)).f=(gt A (i - 1)).f from a5,hq,Bool.not_false,Bool.and_self,cond_true]
    rw [show (gt A (i - 1)).f=(lst out).f from a5.symm]
    rfl
   have e2:eR eqf same red A out (i+1)=out.set (out.length - 1) ⟨⟨(lst out).iv.lo,(gt A (i+1)).til,(lst out).iv.openLo,true⟩,(lst out).f⟩:=by
    unfold eR
    rw [hh,Bool.not_true,cond_false,hg,cond_true,hi2,decide_eq_true m2]
    rw [show i+1 - 2=i - 1 by omega,Nat.add_sub_cancel,m3,m1,ea,m4,hq]
    rfl
   refine ⟨e1.trans e2.symm,?_⟩
   rw [e2]
   refine ⟨fun _=>?_,fun k=>absurd ⟨by omega,hh⟩ k⟩
   rw [ub a1,List.length_set]
   rw [a2] at a4
   exact ⟨a1,rfl,rfl,Nat.lt_trans a4 hlt,a5.trans (heq _ _ hq)⟩
  | false =>
   have e1:du eqf same red (kE A) out (i9 A (i+1))=jo (kE A) out (i9 A (i+1)):=by
    unfold du
    rw [hb,cond_true,hv,hins,Bool.not_false,cond_true,hf]
    rw [show (gt out (out.length - 1)).f=(gt A (i - 1)).f from a5,hq,Bool.and_false,cond_false]
   have e2:=hngap false (by rw [ic.2 ⟨a1,a2,a3⟩,Bool.not_true,Bool.and_false])
   have e3:eR eqf same red A out (i+1)=out++[⟨⟨(gt A i).frm,(gt A (i+1)).til,!false,true⟩,(gt A (i+1)).f⟩]:=by
    unfold eR
    rw [hh,Bool.not_true,cond_false,hg,cond_true,hi2,decide_eq_true m2]
    rw [show i+1 - 2=i - 1 by omega,Nat.add_sub_cancel,m3,m1,ea,m4,hq]
    simp
   refine ⟨(e1.trans e2).trans e3.symm,?_⟩
   rw [e3]; exact happ _
 ·have hmb:((((decide (((i+1:Nat):Int)≥2)) && (gt A (i+1 - 2)).has) && (gt A (i+1 - 1)).has) && same (gt A (i+1 - 2)).f (gt A (i+1 - 1)).f (gt A (i+1)).frm)=false:=by
   cases hq:((((decide (((i+1:Nat):Int)≥2)) && (gt A (i+1 - 2)).has) && (gt A (i+1 - 1)).has) && same (gt A (i+1 - 2)).f (gt A (i+1 - 1)).f (gt A (i+1)).frm) with
   | false=>rfl
   | true =>
    rw [hi2,show i+1 - 2=i - 1 by omega,Nat.add_sub_cancel,ea] at hq
    simp only [Bool.and_eq_true,decide_eq_true_eq] at hq
    exact absurd ⟨hq.1.2,hq.1.1.1,hq.1.1.2,hq.2⟩ m
  have hmb2:(gt A (i+1 - 1)).has=true→(((decide (((i+1:Nat):Int)≥2)) && (gt A (i+1 - 2)).has) && same (gt A (i+1 - 2)).f (gt A (i+1 - 1)).f (gt A (i+1)).frm)=false:=fun hp=>by
   rw [hp,Bool.and_true] at hmb
   exact hmb
  have e3:eR eqf same red A out (i+1)=out++[⟨⟨(gt A i).frm,(gt A (i+1)).til,!((gt A i).has && same (gt A (i+1)).f (gt A i).f (gt A i).frm),true⟩,(gt A (i+1)).f⟩]:=by
   unfold eR
   rw [hh,Bool.not_true,cond_false,hg,cond_true,hmb,Bool.false_and,cond_false]
   cases hp:(gt A (i+1 - 1)).has with
   | false =>
    rw [show (gt A i).has=false from hp,ea]
    simp
   | true =>
    rw [hmb2 hp,show (gt A i).has=true from hp,ea]
    simp
  have e1:du eqf same red (kE A) out (i9 A (i+1))=jo (kE A) out (i9 A (i+1)):=by
   unfold du
   rw [hv,hins,Bool.not_false,cond_true,cond_true,hf]
   cases hb:tC (kE A) out (i9 A (i+1)) with
   | false=>rfl
   | true =>
    rw [cond_true]
    obtain ⟨b1,b2,b3⟩:=iY.1 hb
    rw [hv] at b2
    have hs:(gt out (out.length - 1)).iv.openHi=true:=by
     by_cases c:(gt A i).has=false∨lft same A i
     ·have h2:=h.2.1 m c
      by_cases c2:0 < i∧(gt A (i - 1)).has=true
      ·exact (h2.1 c2).2.2.1
      ·rcases h2.2 c2 with h1 | ⟨h0,h1⟩
       ·omega
       ·have q1:=hA.lt (i - 1) og (hA.odd og og)
        have q2:=hA.adj (i - 1) og
        rw [show i - 1+1=i by omega] at q2
        have q3:pl (lst out).iv.hi=pl (gt A i).frm:=congrArg pl b2
        rw [q2] at q3
        omega
     ·have c1:(gt A i).has=true:=by cases hh:(gt A i).has with
       | true=>rfl
       | false=>exact absurd (.inl hh) c
      obtain ⟨k1,k2,k3,k4,_⟩:=h.2.2 m c1 fun h=>c (.inr h)
      exact absurd (k2.trans k3.symm) b3
    rw [hs,Bool.not_true,Bool.false_and,cond_false]
  have hcond:((((decide (((i9 A (i+1):Nat):Int)>0)) && (aN ((gt (kE A) (i9 A (i+1) - 1)).iv))) && (decide (((gt (kE A) (i9 A (i+1) - 1)).iv).lo=(gt A i).frm))) && (!(lr out (gt A i).frm)))=((gt A i).has && same (gt A (i+1)).f (gt A i).f (gt A i).frm):=by
   cases hp:(gt A i).has with
   | true =>
    obtain ⟨_,y2⟩:=ou (by omega:i < A.length) hp
    have y3:=pk (by omega:i < A.length) hp
    rw [y3,Nat.add_sub_cancel,decide_eq_true (by omega:((i9 A i+1:Nat):Int)>0),y2]
    rw [show (toU (gt A i)).iv=⟨(gt A i).frm,(gt A i).frm,false,false⟩ by unfold toU; rw [hgp,hpp]]
    rw [show aN ⟨(gt A i).frm,(gt A i).frm,false,false⟩=true from decide_eq_true rfl,decide_eq_true rfl,Bool.and_self,Bool.and_self,Bool.true_and,Bool.true_and]
    by_cases l:lft same A i
    ·rw [l.2.2]
     have h2:=h.2.1 m (.inr l)
     cases hb:lr out (gt A i).frm with
     | false=>rfl
     | true =>
      obtain ⟨b1,b2,b3⟩:=ic.1 hb
      by_cases c2:0 < i∧(gt A (i - 1)).has=true
      ·rw [(h2.1 c2).2.2.1] at b3; cases b3
      ·rcases h2.2 c2 with h1 | ⟨h0,h1⟩
       ·omega
       ·have q1:=hA.lt (i - 1) og (hA.odd og og)
        have q2:=hA.adj (i - 1) og
        rw [show i - 1+1=i by omega] at q2
        have q3:pl (lst out).iv.hi=pl (gt A i).frm:=congrArg pl b2
        rw [q2] at q3
        omega
    ·obtain ⟨k1,k2,k3,k4,_⟩:=h.2.2 m hp l
     rw [ic.2 ⟨k1,k3,k4⟩]
     cases hs:same (gt A (i+1)).f (gt A i).f (gt A i).frm with
     | false=>rfl
     | true=>exact absurd ⟨hi,hh,hs⟩ l
   | false =>
    rw [Bool.false_and]
    by_cases hz:0 < i9 A (i+1)
    ·obtain ⟨j,j1,j2,j3,j4⟩:=uP (A:=A) (i+1) og hz
     have hji:j < i:=by
      rcases Nat.lt_or_ge j i with q | q
      ·exact q
      ·obtain rfl:j=i:=by omega
       rw [hp] at j2; cases j2
     obtain ⟨_,y2⟩:=ou (by omega:j < A.length) j2
     rw [show i9 A (i+1) - 1=i9 A j by omega,y2]
     have hfalse:(aN (toU (gt A j)).iv && decide ((toU (gt A j)).iv.lo=(gt A i).frm))=false:=by
      cases hgj:(gt A j).gap with
      | true =>
       have q1:=hA.lt j og hgj
       rw [show aN (toU (gt A j)).iv=false from decide_eq_false fun e=>by
        have e:(gt A j).frm=(gt A j).til:=e
        rw [e] at q1; omega]
       rfl
      | false =>
       have hje:j % 2=0:=by
        have:=hA.gap j og
        rw [hgj] at this
        have:=of_decide_eq_false this.symm
        omega
       have q1:=hA.lt (j+1) og (hA.odd og og)
       have q2:=hA.adj j og
       have q3:=hA.mono' (by omega:j+1 < i) og
       have q4:=hA.le1 (by omega:j < A.length)
       rw [q2] at q1
       rw [decide_eq_false fun e=>?_,Bool.and_false]
       have e:(gt A j).frm=(gt A i).frm:=e
       rw [e] at q4
       omega
     rw [Bool.and_assoc (decide _),hfalse,Bool.and_false]
     rfl
    ·rw [decide_eq_false (by omega:¬ ((i9 A (i+1):Nat):Int)>0)]
     rfl
  have e2:=hngap _ hcond
  refine ⟨(e1.trans e2).trans e3.symm,?_⟩
  rw [e3]; exact happ _
theorem sP (heq:∀ a b,eqf a b=true→a=b) (hA:Turns pl A):∀ i,i≤A.length→et (du eqf same red (kE A)) [] (i9 A i)=et (eR eqf same red A) [] i ∧
 (i % 2=0→InvE pl A (et (eR eqf same red A) [] i) i)∧(i % 2=1→InvO same red pl A (et (eR eqf same red A) [] i) (i - 1)):=by
 have no:∀ (out:List (U α)) i,(gt A i).has=false→eR eqf same red A out i=out:=fun out i h=>by unfold eR; rw [h]; rfl
 intro i
 induction i with
 | zero=>intro _; exact ⟨rfl,fun _=>⟨fun h=>absurd h.1 (Nat.lt_irrefl 0),fun _=>.inl rfl⟩,fun h=>by cases h⟩
 | succ i ih =>
  intro hi
  obtain ⟨h1,h2,h3⟩:=ih og
  show _=eR eqf same red A (et (eR eqf same red A) [] i) i∧(_→InvE pl A (eR eqf same red A (et (eR eqf same red A) [] i) i) (i+1))∧(_→InvO same red pl A (eR eqf same red A (et (eR eqf same red A) [] i) i) (i+1 - 1))
  cases hh:(gt A i).has with
  | false =>
   rw [rR hi hh,no _ _ hh]
   refine ⟨h1,fun he=>?_,fun ho=>?_⟩
   ·have h4:=(h3 og).le hA og
    refine ⟨fun k=>absurd k.2 (by rw [Nat.add_sub_cancel,hh]; decide),fun _=>?_⟩
    rcases h4 with h4 | h4
    ·exact .inl h4
    ·refine .inr ⟨by omega,?_⟩
     have q1:=hA.adj (i - 1) og
     have q2:=hA.pt (i - 1) og (hA.even og og)
     rw [show i - 1+1=i by omega,q2] at q1
     rw [Nat.add_sub_cancel,q1]
     exact h4
   ·have h4:=h2 og
    rw [Nat.add_sub_cancel]
    exact ⟨fun k=>absurd k.1 (by rw [hh]; decide),fun _ _=>h4,fun _ k=>absurd k (by rw [hh]; decide)⟩
  | true =>
   rw [pk hi hh]
   show du eqf same red (kE A) (et (du eqf same red (kE A)) [] (i9 A i)) (i9 A i)=_∧_
   rw [h1]
   rcases Nat.mod_two_eq_zero_or_one i with he | ho
   ·obtain ⟨k1,k2⟩:=pt_step (eqf:=eqf) (same:=same) (red:=red) hA hi he hh (h2 he)
    exact ⟨k1,fun q=>by omega,fun _=>by rw [Nat.add_sub_cancel]; exact k2⟩
   ·obtain ⟨i,rfl⟩:∃ j,i=j+1:=⟨i - 1,by omega⟩
    have h4:=h3 ho
    rw [Nat.add_sub_cancel] at h4
    obtain ⟨k1,k2⟩:=gap_step (eqf:=eqf) (same:=same) (red:=red) heq hA hi og hh h4
    exact ⟨k1,fun _=>k2,fun q=>by omega⟩
theorem loops_eq (heq:∀ a b,eqf a b=true→a=b) (hA:Turns pl A):et (du eqf same red (kE A)) [] (kE A).length=et (eR eqf same red A) [] A.length:=by
 have:=(sP (same:=same) (red:=red) heq hA A.length (Nat.le_refl _)).1
 rwa [rS] at this
end
end Go.Sx
