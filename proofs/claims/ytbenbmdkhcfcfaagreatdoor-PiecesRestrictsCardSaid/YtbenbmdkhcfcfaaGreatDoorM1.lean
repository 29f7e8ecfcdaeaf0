import Derived.Test.YtbenbmdkhcfcfaaGreatDoorA7
import Derived.Test.YtbenbmdkhcfcfaaGreatDoorH1
import Derived.Test.YtbenbmdkhcfcfaaGreatDoorHb
set_option linter.unusedVariables false
set_option linter.unusedSimpArgs false
namespace Go.Sx
section
variable {α:Type} [Inhabited α] (c:α→α→Int)
def wk (a:Nat) (j:Nat) (d:List α):Nx (Nat×List α) (List α) :=
 bif ((decide ((j:Int)>(a:Int))) && (decide ((c (gt d j) (gt d (j - 1))) < 0))) then
  .go ((j - 1),((d.set j (gt d (j - 1))).set (j - 1) (gt d j)))
 else
  .out (j,d)
def isB1 (a b i:Nat) (d:List α):Nx (Nat×List α) (List α) :=
 bif (decide ((i:Int) < (b:Int))) then
  fin (br (fun s=>wk c a s.1 s.2) (i+1) (i,d)) (fun s=>.go ((i+1),s.2)) (fun r=>.ret r)
 else
  .out (i,d)
def l6 (d:List α) (a b:Nat):List α :=
 fin (br (fun s=>isB1 c a b s.1 s.2) ((b+1 - (a+1))+1) ((a+1),d)) (fun s=>s.2) (fun r=>r)
def jA (x:α):List α→List α
 | []=>[x]
 | y::q=>if c x y < 0 then y::jA x q else x::y::q
def qu:List α→List α→List α
 | r,[]=>r
 | r,x::s=>qu (jA c x r) s
variable {c}
theorem oo {p:List α} {x:α} {s:List α} {j:Nat} (h:j=p.length):gt (p++x::s) j=x:=by
 subst h; simp [gt,List.getD]
omit [Inhabited α] in
theorem lJ (x:α):∀ r:List α,(jA c x r).length=r.length+1
 | []=>rfl
 | y::q=>by
  unfold jA
  split
  ·simp [lJ x q]
  ·rfl
theorem sP (x:α):∀ (r s:List α) (k:Nat),r.length < k→∃ j,br (fun s=>wk c 0 s.1 s.2) k (r.length,r.reverse++x::s)=.inl (j,(jA c x r).reverse++s)
 | [],s,k+1,_=>⟨0,by simp [br,wk,jA]⟩
 | y::q,s,k+1,hk=>by
  have e1:gt ((y::q).reverse++x::s) ((y::q).length)=x:=oo (by simp)
  have e2:gt ((y::q).reverse++x::s) ((y::q).length - 1)=y:=by
   rw [List.reverse_cons,List.append_assoc,List.singleton_append]
   exact oo (by simp)
  have hp:((y::q).length:Int)>((0:Nat):Int):=by simp
  by_cases h:c x y < 0
  ·obtain ⟨j,hj⟩:=sP x q (y::s) k (by simp at hk; omega)
   refine ⟨j,?_⟩
   have e3:((((y::q).reverse++x::s).set (y::q).length y).set ((y::q).length - 1) x)=q.reverse++x::y::s:=by
    simp only [List.reverse_cons,List.append_assoc,List.length_cons,Nat.add_sub_cancel,List.singleton_append]
    rw [List.set_append_right _ _ (by simp),List.set_append_right _ _ (by simp)]
    simp
   have e4:wk c 0 (y::q).length ((y::q).reverse++x::s)=.go (q.length,q.reverse++x::y::s):=by
    unfold wk
    rw [e1,e2,e3,decide_eq_true hp,decide_eq_true h]
    rfl
   unfold br
   simp only [e4]
   have ei:jA c x (y::q)=y::jA c x q:=if_pos h
   rw [hj,ei,List.reverse_cons,List.append_assoc]
   rfl
  ·refine ⟨(y::q).length,?_⟩
   have e4:wk c 0 (y::q).length ((y::q).reverse++x::s)=.out ((y::q).length,(y::q).reverse++x::s):=by
    unfold wk
    rw [e1,e2,decide_eq_false h,Bool.and_false]
    rfl
   unfold br
   simp only [e4]
   have ei:jA c x (y::q)=x::y::q:=if_neg h
   rw [ei,List.reverse_cons (a:=x),List.append_assoc]
   rfl
theorem sQ (b:Nat):∀ (s r:List α) (k:Nat),r.length+s.length=b→s.length < k →
 br (fun s=>isB1 c 0 b s.1 s.2) k (r.length,r.reverse++s)=.inl (b,(qu c r s).reverse)
 | [],r,k+1,hb,_=>by
  have:¬ (r.length:Int) < (b:Int):=by simp at hb; omega
  unfold br isB1
  simp only [decide_eq_false this,cond_false]
  simp at hb
  rw [hb,List.append_nil]
  rfl
 | x::s,r,k+1,hb,hk=>by
  have hlt:(r.length:Int) < (b:Int):=by simp at hb; omega
  obtain ⟨j,hj⟩:=sP (c:=c) x r s (r.length+1) og
  have ih:=sQ b s (jA c x r) k (by rw [lJ]; simp at hb; omega) (by simp at hk; omega)
  rw [lJ] at ih
  unfold br
  have e:isB1 c 0 b r.length (r.reverse++x::s)=.go (r.length+1,(jA c x r).reverse++s):=by
   unfold isB1
   rw [decide_eq_true hlt,cond_true,hj]
   rfl
  simp only [e]
  rw [ih]
  rfl
theorem rE (d:List α):l6 c d 0 d.length=(qu c [] d).reverse:=by
 unfold l6
 cases d with
 | nil=>rfl
 | cons x s =>
  have:=sQ (c:=c) (x::s).length s [x] ((x::s).length+1 - (0+1)+1) (by simp; omega) (by simp only [List.length_cons]; omega)
  rw [show (0+1,x::s)=([x].length,[x].reverse++s) from rfl,io this]
  rfl
omit [Inhabited α] in
theorem jK (x:α):∀ r:List α,(jA c x r).Perm (x::r)
 | []=>.refl _
 | y::q=>by
  unfold jA
  split
  ·exact ((jK x q).cons y).trans (.swap x y q)
  ·exact .refl _
omit [Inhabited α] in
theorem qN:∀ (s r:List α),(qu c r s).Perm (r++s)
 | [],r=>by simp [qu]
 | x::s,r=>by
  unfold qu
  refine (qN s _).trans ?_
  refine ((jK x r).append_right s).trans ?_
  exact List.perm_middle.symm
theorem mQ (d:List α):(l6 c d 0 d.length).Perm d:=by
 rw [rE]
 exact (List.reverse_perm _).trans (by simpa using qN d [])
variable {S:α→Prop}
omit [Inhabited α] in
theorem nL (hA:∀ x y,S x→S y→c x y < 0→¬ c y x < 0) (hT:∀ x y z,S x→S y→S z→¬ c x y < 0→¬ c y z < 0→¬ c x z < 0) {x:α} (hx:S x) :
 ∀ {r:List α},(∀ y∈r,S y)→r.Pairwise (fun a b=>¬ c a b < 0)→(jA c x r).Pairwise (fun a b=>¬ c a b < 0)
 | [],_,_=>List.pairwise_singleton _ _
 | y::q,hS,hp=>by
  have hy:=hS y (List.mem_cons_self ..)
  have hq:∀ z∈q,S z:=fun z hz=>hS z (List.mem_cons_of_mem _ hz)
  rw [List.pairwise_cons] at hp
  unfold jA
  split
  case isTrue h =>
   rw [List.pairwise_cons]
   refine ⟨fun z hz=>?_,nL hA hT hx hq hp.2⟩
   rcases List.mem_cons.1 ((jK x q).mem_iff.1 hz) with rfl | hz
   ·exact hA _ _ hx hy h
   ·exact hp.1 z hz
  case isFalse h =>
   rw [List.pairwise_cons]
   refine ⟨fun z hz=>?_,List.pairwise_cons.2 hp⟩
   rcases List.mem_cons.1 hz with rfl | hz
   ·exact h
   ·exact hT _ _ _ hx hy (hq z hz) h (hp.1 z hz)
omit [Inhabited α] in
theorem oM (hA:∀ x y,S x→S y→c x y < 0→¬ c y x < 0) (hT:∀ x y z,S x→S y→S z→¬ c x y < 0→¬ c y z < 0→¬ c x z < 0) :
 ∀ {s r:List α},(∀ y∈r,S y)→(∀ y∈s,S y)→r.Pairwise (fun a b=>¬ c a b < 0)→(qu c r s).Pairwise (fun a b=>¬ c a b < 0)
 | [],_,_,_,hp=>hp
 | x::s,r,hr,hs,hp=>by
  unfold qu
  refine oM hA hT (fun y hy=>?_) (fun y hy=>hs y (List.mem_cons_of_mem _ hy)) (nL hA hT (hs x (List.mem_cons_self ..)) hr hp)
  rcases List.mem_cons.1 ((jK x r).mem_iff.1 hy) with rfl | hy
  ·exact hs _ (List.mem_cons_self ..)
  ·exact hr y hy
theorem sN (hA:∀ x y,S x→S y→c x y < 0→¬ c y x < 0) (hT:∀ x y z,S x→S y→S z→¬ c x y < 0→¬ c y z < 0→¬ c x z < 0) {d:List α} (hd:∀ y∈d,S y) :
 (l6 c d 0 d.length).Pairwise (fun a b=>¬ c b a < 0):=by
 rw [rE,List.pairwise_reverse]
 exact oM hA hT (fun _ h=>by cases h) hd .nil
end
end Go.Sx
namespace Go.Sx
def tk (x:GR):Nat:=(bif x.p.num.neg then 0 else 10*x.p.num.mag+10)+(if x.r.num.mag=0 then 0 else 14)
def sgn (a b:Nat):Int:=if a < b then -1 else if b < a then 1 else 0
def sR (a n:Nat):List GR:=(List.range n).flatMap fun (i:Nat)=>[ae (Int.ofNat (a+i)) false,ae (Int.ofNat (a+i)) true]
def chk2 (l m:List GR):Bool:=l.all fun x=>m.all fun y=>an x y == sgn (tk x) (tk y) && (!(tk x == tk y) || decide (x=y))
def insX:List GR:=[ae (-1) false,ae (-1) true,ae 1000 false,ae 1000 true]
def allI:List GR:=insX++sR 0 45
theorem chk_x:chk2 insX allI=true:=by decide +kernel
theorem chk_a:chk2 (sR 0 15) allI=true:=by decide +kernel
theorem chk_b:chk2 (sR 15 15) allI=true:=by decide +kernel
theorem chk_c:chk2 (sR 30 15) allI=true:=by decide +kernel
def Tm (x:GR):Prop:=∃ (n:Int) (r:Bool),(n=-1∨n=1000∨(0≤n∧n < 45))∧x=ae n r
theorem nK {a k n:Nat} (r:Bool) (h1:a≤n) (h2:n < a+k):ae (n:Int) r∈sR a k:=by
 unfold sR
 rw [List.mem_flatMap]
 refine ⟨n - a,List.mem_range.2 og,?_⟩
 rw [show a+(n - a)=n by omega]
 cases r
 ·exact List.mem_cons_self ..
 ·exact List.mem_cons_of_mem _ (List.mem_cons_self ..)
theorem Tm.mem {x:GR} (h:Tm x):x∈insX∨∃ (n:Nat) (r:Bool),n < 45∧x=ae (n:Int) r:=by
 obtain ⟨n,r,h,rfl⟩:=h
 rcases h with rfl | rfl | h
 ·left; unfold insX; cases r <;> simp
 ·left; unfold insX; cases r <;> simp
 ·right
  obtain ⟨k,rfl⟩:∃ k:Nat,n=(k:Int):=⟨n.toNat,by omega⟩
  exact ⟨k,r,by omega,rfl⟩
theorem Tm.all {x:GR} (h:Tm x):x∈allI:=by
 unfold allI
 rcases h.mem with h | ⟨n,r,hn,rfl⟩
 ·exact List.mem_append_left _ h
 ·exact List.mem_append_right _ (nK r (Nat.zero_le n) og)
theorem Tm.both {x y:GR} (hx:Tm x) (hy:Tm y):an x y=sgn (tk x) (tk y)∧(tk x=tk y→x=y):=by
 have key:∀ {l:List GR},chk2 l allI=true→x∈l→an x y=sgn (tk x) (tk y)∧(tk x=tk y→x=y):=fun hc hx=>by
  have h:=List.all_eq_true.1 (List.all_eq_true.1 hc _ hx) _ hy.all
  rw [Bool.and_eq_true] at h
  refine ⟨eq_of_beq h.1,fun e=>?_⟩
  have h2:=h.2
  rw [e,beq_self_eq_true,Bool.not_true,Bool.false_or] at h2
  exact of_decide_eq_true h2
 rcases hx.mem with h | ⟨n,r,hn,rfl⟩
 ·exact key chk_x h
 ·by_cases h1:n < 15
  ·exact key chk_a (nK r (Nat.zero_le n) og)
  ·by_cases h2:n < 30
   ·exact key chk_b (nK r og og)
   ·exact key chk_c (nK r og og)
theorem Tm.of_all {p:GR→Bool} (h:allI.all p=true) {x:GR} (hx:Tm x):p x=true:=List.all_eq_true.1 h x hx.all
theorem Tm.cmp {x y:GR} (hx:Tm x) (hy:Tm y):an x y=sgn (tk x) (tk y):=(hx.both hy).1
theorem Tm.inj {x y:GR} (hx:Tm x) (hy:Tm y):tk x=tk y↔x=y:=⟨(hx.both hy).2,fun e=>by rw [e]⟩
end Go.Sx
namespace Go.Sx
theorem fL {a b:Nat} (h:a < b):sgn a b=-1:=if_pos h
theorem f7 {a b:Nat} (h:b < a):sgn a b=1:=by unfold sgn; rw [if_neg og,if_pos h]
theorem dO (a:Nat):sgn a a=0:=by unfold sgn; rw [if_neg (Nat.lt_irrefl a),if_neg (Nat.lt_irrefl a)]
theorem lD {a b:Nat}:sgn a b < 0↔a < b:=by
 rcases Nat.lt_trichotomy a b with h | h | h
 ·rw [fL h]; simp [h]
 ·subst h; rw [dO]; simp
 ·rw [f7 h]; simp; omega
theorem sgn_zero {a b:Nat}:sgn a b=0↔a=b:=by
 rcases Nat.lt_trichotomy a b with h | h | h
 ·rw [fL h]; simp; omega
 ·subst h; rw [dO]; simp
 ·rw [f7 h]; simp; omega
def ci (i:Iv):Int:=bif i.openLo then 1 else 0
def cU {α:Type} (a b:U α):Int:=nP [an a.iv.lo b.iv.lo,dg (ci a.iv) (ci b.iv),an a.iv.hi b.iv.hi]
theorem or3 (a b c:Int):nP [a,b,c]=if a≠0 then a else if b≠0 then b else c:=by
 unfold nP
 by_cases ha:a=0
 ·by_cases hb:b=0
  ·by_cases hc:c=0
   ·subst ha hb hc; rfl
   ·subst ha hb
    have e:(c != 0)=true:=bne_iff_ne.2 hc
    simp [br,fin,lA,gt,e]
  ·subst ha
   have e:(b != 0)=true:=bne_iff_ne.2 hb
   simp [br,fin,lA,gt,e,hb]
 ·have e:(a != 0)=true:=bne_iff_ne.2 ha
  simp [br,fin,lA,gt,e,ha]
theorem ci00:dg 0 0=0:=by decide +kernel
theorem ci01:dg 0 1=-1:=by decide +kernel
theorem ci10:dg 1 0=1:=by decide +kernel
theorem ci11:dg 1 1=0:=by decide +kernel
theorem tC {x:GR} (h:Tm x):tk x < 100000:=by
 have:=Tm.of_all (p:=fun x=>decide (tk x < 100000)) (by decide +kernel) h
 exact of_decide_eq_true this
def Tv (i:Iv):Prop:=Tm i.lo∧Tm i.hi
def kU (i:Iv):Nat:=(tk i.lo*2+(bif i.openLo then 1 else 0))*100000+tk i.hi
theorem ub {α:Type} {a b:U α} (ha:Tv a.iv) (hb:Tv b.iv):cU a b=sgn (kU a.iv) (kU b.iv):=by
 have l1:=tC ha.2
 have l2:=tC hb.2
 unfold cU
 rw [or3,ha.1.cmp hb.1,ha.2.cmp hb.2]
 unfold kU ci
 generalize tk a.iv.lo=p at *
 generalize tk b.iv.lo=q at *
 generalize tk a.iv.hi=s at *
 generalize tk b.iv.hi=t at *
 have key:∀ x y:Nat,x≤1→y≤1→(if sgn p q≠0 then sgn p q else if sgn x y≠0 then sgn x y else sgn s t)=sgn ((p*2+x)*100000+s) ((q*2+y)*100000+t):=by
  intro x y hx hy
  rcases Nat.lt_trichotomy p q with h | h | h
  ·rw [fL h,if_pos DC]; exact (fL og).symm
  ·subst h
   rw [dO,if_neg DC]
   rcases Nat.lt_trichotomy x y with h | h | h
   ·rw [fL h,if_pos DC]; exact (fL og).symm
   ·subst h
    rw [dO,if_neg DC]
    rcases Nat.lt_trichotomy s t with h | h | h
    ·rw [fL h,fL og]
    ·subst h
     rw [dO,dO]
    ·rw [f7 h,f7 og]
   ·rw [f7 h,if_pos DC]; exact (f7 og).symm
  ·rw [f7 h,if_pos DC]; exact (f7 og).symm
 cases a.iv.openLo <;> cases b.iv.openLo <;> simp only [cond_true,cond_false,ci00,ci01,ci10,ci11]
 ·exact key 0 0 DC DC
 ·exact key 0 1 DC DC
 ·exact key 1 0 DC DC
 ·exact key 1 1 DC DC
theorem vA {α:Type} [Inhabited (U α)] {c:U α→U α→Int} (hc:∀ a b,c a b=cU a b) {d:List (U α)} (hd:∀ u∈d,Tv u.iv) :
 (l6 c d 0 d.length).Perm d∧(l6 c d 0 d.length).Pairwise fun a b=>kU a.iv≤kU b.iv:=by
 refine ⟨mQ d,?_⟩
 have hp:=sN (c:=c) (S:=fun u=>Tv u.iv)
  (fun x y hx hy h=>by rw [hc,ub hx hy,lD] at h; rw [hc,ub hy hx,lD]; omega)
  (fun x y z hx hy hz h1 h2=>by rw [hc,ub hx hy,lD] at h1; rw [hc,ub hy hz,lD] at h2; rw [hc,ub hx hz,lD]; omega) hd
 refine hp.imp_of_mem (fun {a b} ha hb h=>?_)
 have ha':=hd a ((mQ d).mem_iff.1 ha)
 have hb':=hd b ((mQ d).mem_iff.1 hb)
 rw [hc,ub hb' ha',lD] at h
 omega
def dL (i:Iv):Nat:=2*tk i.lo+(bif i.openLo then 1 else 0)
def ee (i:Iv):Int:=2*tk i.hi - (bif i.openHi then 1 else 0)
def Wv (i:Iv):Prop:=Tv i∧tk i.lo≤tk i.hi∧(tk i.lo=tk i.hi→i.openLo=false∧i.openHi=false)
theorem Wv.le {i:Iv} (h:Wv i):(dL i:Int)≤ee i:=by
 obtain ⟨_,h1,h2⟩:=h
 unfold dL ee
 by_cases e:tk i.lo=tk i.hi
 ·rw [(h2 e).1,(h2 e).2,e]; simp
 ·cases i.openLo <;> cases i.openHi <;> simp <;> omega
theorem mJ {a b:Iv} (ha:Tv a) (hb:Tv b):ef a b=decide (ee a < (dL b:Int)):=by
 unfold ef
 rw [ha.2.cmp hb.1]
 unfold ee dL
 rcases Nat.lt_trichotomy (tk a.hi) (tk b.lo) with h | h | h
 ·rw [fL h]
  cases a.openHi <;> cases b.openLo <;> simp <;> omega
 ·rw [h,dO]
  cases a.openHi <;> cases b.openLo <;> simp <;> omega
 ·rw [f7 h]
  cases a.openHi <;> cases b.openLo <;> simp <;> omega
theorem kw {i:Iv} (h:Tv i):aM i=decide (tk i.lo=tk i.hi):=by
 unfold aM
 exact decide_eq_decide.2 (h.1.inj h.2).symm
end Go.Sx
namespace Go.Sx
def Ts (l:List GR):Prop:=(∀ x∈l,Tm x)∧l.Pairwise fun x y=>tk x < tk y
theorem eW {S R:Type} {B:S→Nx S R} (n:Nat) {s s':S} (h:B s=.go s'):br B (n+1) s=br B n s':=by
 show (match B s with | .go s'=>br B n s' | .out s'=>.inl s' | .ret r=>.inr r)=_
 rw [h]
theorem fF {S R:Type} {B:S→Nx S R} (n:Nat) {s s':S} (h:B s=.out s'):br B (n+1) s=.inl s':=by
 show (match B s with | .go s'=>br B n s' | .out s'=>.inl s' | .ret r=>.inr r)=_
 rw [h]
theorem xL {S R:Type} {B:S→Nx S R} (n:Nat) {s:S} {r:R} (h:B s=.ret r):br B (n+1) s=.inr r:=by
 show (match B s with | .go s'=>br B n s' | .out s'=>.inl s' | .ret r=>.inr r)=_
 rw [h]
theorem pI {x:GR} (hx:Tm x):∀ (s p l:List GR) (k:Nat),l=p++s→s.length < k→Ts l→(∀ y∈p,tk y < tk x) →
 ∃ r,fin (br (fun s=>cP l x s) k p.length) (fun s=>jQ l x s) (fun r=>r)=r∧Ts r∧∀ y,y∈r↔y∈l∨y=x
 | [],p,l,k+1,hl,_,ht,hp=>by
  have hn:¬ (p.length:Int) < (l.length:Int):=by rw [hl]; simp
  rw [List.append_nil] at hl
  subst hl
  refine ⟨l++[x],?_,⟨?_,?_⟩,fun y=>by simp⟩
  ·unfold br cP
   rw [decide_eq_false hn]
   rfl
  ·intro y hy
   rcases List.mem_append.1 hy with hy | hy
   ·exact ht.1 y hy
   ·rw [List.mem_singleton.1 hy]; exact hx
  ·rw [List.pairwise_append]
   exact ⟨ht.2,List.pairwise_singleton _ _,fun a ha b hb=>by rw [List.mem_singleton.1 hb]; exact hp a ha⟩
 | y::s,p,l,k+1,hl,hk,ht,hp=>by
  have hn:(p.length:Int) < (l.length:Int):=by rw [hl]; simp; omega
  have hg:gt l p.length=y:=by rw [hl]; exact oo rfl
  have hy:Tm y:=ht.1 y (by rw [hl]; simp)
  have hc:an x y=sgn (tk x) (tk y):=hx.cmp hy
  have htl:=ht.2
  rw [hl,List.pairwise_append,List.pairwise_cons] at htl
  rcases Nat.lt_trichotomy (tk x) (tk y) with h | h | h
  ·refine ⟨((([]++(l.take p.length))++[x])++(l.drop p.length)),?_,?_,?_⟩
   ·unfold br cP
    rw [decide_eq_true hn,hg,hc,fL h]
    rfl
   ·have e:((([]++(l.take p.length))++[x])++(l.drop p.length))=p++x::y::s:=by rw [hl]; simp
    rw [e]
    refine ⟨fun z hz=>?_,?_⟩
    ·rcases List.mem_append.1 hz with hz | hz
     ·exact ht.1 z (by rw [hl]; simp [hz])
     ·rcases List.mem_cons.1 hz with rfl | hz
      ·exact hx
      ·exact ht.1 z (by rw [hl]; exact List.mem_append_right _ hz)
    ·rw [List.pairwise_append,List.pairwise_cons,List.pairwise_cons]
     refine ⟨htl.1,⟨fun z hz=>?_,htl.2.1⟩,fun a ha b hb=>?_⟩
     ·rcases List.mem_cons.1 hz with rfl | hz
      ·exact h
      ·exact Nat.lt_trans h (htl.2.1.1 z hz)
     ·rcases List.mem_cons.1 hb with rfl | hb
      ·exact hp a ha
      ·exact htl.2.2 a ha b hb
   ·intro z
    rw [hl]
    simp only [List.nil_append,List.take_left',List.drop_left',List.append_assoc,List.mem_append,List.mem_singleton,List.singleton_append,List.mem_cons]
    constructor
    ·rintro (h | h | h)
     ·exact .inl (.inl h)
     ·exact .inr h
     ·exact .inl (.inr h)
    ·rintro ((h | h) | h)
     ·exact .inl h
     ·exact .inr (.inr h)
     ·exact .inr (.inl h)
  ·have e:=(hx.inj hy).1 h
   refine ⟨l,?_,ht,fun z=>⟨.inl,fun hz=>hz.elim id fun e'=>by rw [e',e,hl]; simp⟩⟩
   unfold br cP
   rw [decide_eq_true hn,hg,hc,h,dO]
   rfl
  ·obtain ⟨r,h1,h2⟩:=pI hx s (p++[y]) l k (by rw [hl]; simp) (by simp at hk; omega) ht (fun z hz=>by
    rcases List.mem_append.1 hz with hz | hz
    ·exact hp z hz
    ·rw [List.mem_singleton.1 hz]; exact h)
   refine ⟨r,?_,h2⟩
   rw [← h1,List.length_append]
   have e:cP l x p.length=.go (p.length+1):=by
    unfold cP
    rw [decide_eq_true hn,hg,hc,f7 h]
    rfl
   rw [eW (B:=fun s=>cP l x s) k e]
   rfl
theorem sT {l:List GR} {x:GR} (hl:Ts l) (hx:Tm x):Ts (ax l x)∧∀ y,y∈ax l x↔y∈l∨y=x:=by
 obtain ⟨r,h1,h2⟩:=pI hx l [] l (l.length - 0+1) rfl og hl (fun _ h=>by cases h)
 have e:ax l x=r:=by
  unfold ax
  exact h1
 rw [e]
 exact h2
def kG (l:List Iv):List GR:=l.foldl (fun o i=>ax (ax o i.lo) i.hi) []
theorem x6 {l:List Iv} (hl:∀ i∈l,Tv i):∀ {o:List GR},Ts o→Ts (l.foldl (fun o i=>ax (ax o i.lo) i.hi) o)∧∀ y,y∈l.foldl (fun o i=>ax (ax o i.lo) i.hi) o↔y∈o∨∃ i∈l,y=i.lo∨y=i.hi:=by
 induction l with
 | nil=>intro o ho; exact ⟨ho,fun y=>by simp⟩
 | cons i l ih =>
  intro o ho
  have hi:=hl i (List.mem_cons_self ..)
  obtain ⟨h1,h2⟩:=sT ho hi.1
  obtain ⟨h3,h4⟩:=sT h1 hi.2
  obtain ⟨h5,h6⟩:=ih (fun j hj=>hl j (List.mem_cons_of_mem _ hj)) h3
  refine ⟨h5,fun y=>?_⟩
  rw [List.foldl_cons,h6,h4,h2]
  constructor
  ·rintro (((h | h) | h) | ⟨j,hj,h⟩)
   ·exact .inl h
   ·exact .inr ⟨i,List.mem_cons_self ..,.inl h⟩
   ·exact .inr ⟨i,List.mem_cons_self ..,.inr h⟩
   ·exact .inr ⟨j,List.mem_cons_of_mem _ hj,h⟩
  ·rintro (h | ⟨j,hj,h⟩)
   ·exact .inl (.inl (.inl h))
   ·rcases List.mem_cons.1 hj with rfl | hj
    ·rcases h with h | h
     ·exact .inl (.inl (.inr h))
     ·exact .inl (.inr h)
    ·exact .inr ⟨j,hj,h⟩
theorem mT {l:List Iv} (hl:∀ i∈l,Tv i):Ts (kG l)∧∀ y,y∈kG l↔∃ i∈l,y=i.lo∨y=i.hi:=by
 obtain ⟨h1,h2⟩:=x6 hl (o:=[]) ⟨fun _ h=>(by cases h),List.Pairwise.nil⟩
 exact ⟨h1,fun y=>by rw [kG,h2]; simp⟩
theorem pN {α β R:Type} [Inhabited α] {f:β→α→β} (l:List α) {B:β×Nat→Nx (β×Nat) R} (hgo:∀ o i,i < l.length→B (o,i)=.go (f o (gt l i),i+1)) (hout:∀ o,B (o,l.length)=.out (o,l.length)) :
 ∀ (s p:List α) (o:β) (k:Nat),l=p++s→s.length < k→br B k (o,p.length)=.inl (s.foldl f o,l.length)
 | [],p,o,k+1,hl,_=>by
  rw [List.append_nil] at hl
  rw [← hl,fF k (hout o)]
  rfl
 | x::s,p,o,k+1,hl,hk=>by
  have hg:gt l p.length=x:=by rw [hl]; exact oo rfl
  have h1:=hgo o p.length (by rw [hl]; simp)
  rw [hg] at h1
  have ih:=pN l hgo hout s (p++[x]) (f o x) k (by rw [hl]; simp) (by simp at hk; omega)
  rw [eW k h1,List.foldl_cons,← ih,List.length_append]
  rfl
end Go.Sx
namespace Go.Sx
section
variable {α:Type}
def ptA (z:α) (t:GR):At α:=⟨t,t,false,false,z⟩
def qP (z:α) (t t':GR):At α:=⟨t,t',true,false,z⟩
def gf (z:α):List GR→List (At α)
 | []=>[]
 | [t]=>[ptA z t]
 | t::t'::r=>ptA z t::qP z t t'::gf z (t'::r)
def lz (u:U α) (a:At α):At α:=bif aT u.iv a.frm a.til a.gap then ⟨a.frm,a.til,a.gap,true,u.f⟩ else a
def kx (l:List (U α)) (a:At α):At α:=l.foldl (fun a u=>lz u a) a
def iH (z:α) (l:List (U α)) (ts:List GR):List (At α):=(gf z ts).map (kx l)
end
theorem gt_set {α:Type} [Inhabited α] {l:List α} {i:Nat} {x:α} (h:i < l.length):gt (l.set i x) i=x:=by
 simp [gt,List.getD,h]
theorem set_gt {α:Type} [Inhabited α] {l:List α} {i:Nat} (h:i < l.length):l.set i (gt l i)=l:=by
 simp [gt,List.getD,List.getElem?_eq_getElem h]
section
variable {α R:Type} [Inhabited (At α)]
omit [Inhabited (At α)] in
theorem qh {z:α} {ts:List GR} {B:List (At α)×Nat→Nx (List (At α)×Nat) R}
 (h1:∀ o i,i+1 < ts.length→B (o,i)=.go ((o++[ptA z (gt ts i)])++[qP z (gt ts i) (gt ts (i+1))],i+1))
 (h2:∀ o i,i+1=ts.length→B (o,i)=.go (o++[ptA z (gt ts i)],i+1)) (h3:∀ o,B (o,ts.length)=.out (o,ts.length)) :
 ∀ (s p:List GR) (o:List (At α)) (k:Nat),ts=p++s→s.length < k→br B k (o,p.length)=.inl (o++gf z s,ts.length)
 | [],p,o,k+1,hl,_=>by
  rw [List.append_nil] at hl
  rw [← hl,fF k (h3 o),gf,List.append_nil]
 | [t],p,o,k+1,hl,hk=>by
  have e:=h2 o p.length (by rw [hl]; simp)
  have hg:gt ts p.length=t:=by rw [hl]; exact oo rfl
  rw [hg] at e
  have ih:=qh h1 h2 h3 [] (p++[t]) (o++[ptA z t]) k (by rw [hl]; simp) (by simp at hk; omega)
  rw [List.length_append] at ih
  rw [eW k e]
  refine Eq.trans ih ?_
  simp [gf]
 | t::t'::r,p,o,k+1,hl,hk=>by
  have e:=h1 o p.length (by rw [hl]; simp)
  have hg:gt ts p.length=t:=by rw [hl]; exact oo rfl
  have hg':gt ts (p.length+1)=t':=by
   rw [hl,show p++t::t'::r=(p++[t])++t'::r by simp]
   exact oo (by simp)
  rw [hg,hg'] at e
  have ih:=qh h1 h2 h3 (t'::r) (p++[t]) ((o++[ptA z t])++[qP z t t']) k (by rw [hl]; simp) (by simp at hk ⊢; omega)
  rw [List.length_append] at ih
  rw [eW k e]
  refine Eq.trans ih ?_
  simp [gf]
theorem ot {β γ:Type} [Inhabited γ] {f:β→γ→β} (l:List γ) {B:Nat×β→Nx (Nat×β) R} {I:β→Prop} (hI:∀ o x,I o→I (f o x)) (hgo:∀ o i,I o→i < l.length→B (i,o)=.go (i+1,f o (gt l i))) (hout:∀ o,B (l.length,o)=.out (l.length,o)) :
 ∀ (s p:List γ) (o:β) (k:Nat),I o→l=p++s→s.length < k→br B k (p.length,o)=.inl (l.length,s.foldl f o)
 | [],p,o,k+1,_,hl,_=>by
  rw [List.append_nil] at hl
  rw [← hl,fF k (hout o)]
  rfl
 | x::s,p,o,k+1,hi,hl,hk=>by
  have hg:gt l p.length=x:=by rw [hl]; exact oo rfl
  have h1:=hgo o p.length hi (by rw [hl]; simp)
  rw [hg] at h1
  have ih:=ot l hI hgo hout s (p++[x]) (f o x) k (hI _ _ hi) (by rw [hl]; simp) (by simp at hk; omega)
  rw [eW k h1,List.foldl_cons,← ih,List.length_append]
  rfl
theorem uW (i:Nat):∀ (l:List (U α)) (o:List (At α)),i < o.length→l.foldl (fun o u=>o.set i (lz u (gt o i))) o=o.set i (kx l (gt o i))
 | [],o,h=>(set_gt h).symm
 | u::l,o,h=>by
  rw [List.foldl_cons,uW i l _ (by simpa using h),gt_set h,List.set_set]
  rfl
end
theorem uM {γ R:Type} [Inhabited γ] {g:γ→γ} {n:Nat} {B:Nat×List γ→Nx (Nat×List γ) R} (hgo:∀ o i,i < o.length→o.length=n→B (i,o)=.go (i+1,o.set i (g (gt o i)))) (hout:∀ o,o.length=n→B (n,o)=.out (n,o)) :
 ∀ (s p:List γ) (k:Nat),p.length+s.length=n→s.length < k→br B k (p.length,p++s)=.inl (n,p++s.map g)
 | [],p,k+1,hn,_=>by
  rw [List.append_nil]
  simp at hn
  rw [hn,fF k (hout p hn),List.map_nil,List.append_nil]
 | x::s,p,k+1,hn,hk=>by
  have h1:=hgo (p++x::s) p.length (by simp) (by simpa using hn)
  rw [oo rfl,List.set_append_right _ _ (Nat.le_refl _),Nat.sub_self,List.set_cons_zero] at h1
  have ih:=uM hgo hout s (p++[g x]) k (by simp at hn ⊢; omega) (by simp at hk; omega)
  rw [List.length_append,List.append_assoc] at ih
  rw [eW k h1]
  refine Eq.trans ih ?_
  simp
end Go.Sx
namespace Go.Sx
theorem mC {i:Iv} {t:GR} (hi:Tv i) (ht:Tm t):aT i t t false=decide (dL i≤2*tk t∧(2*tk t:Int)≤ee i):=by
 unfold aT
 rw [cond_false,hi.1.cmp ht,ht.cmp hi.2]
 unfold dL ee
 rcases Nat.lt_trichotomy (tk i.lo) (tk t) with h | h | h
 ·rw [fL h]
  rcases Nat.lt_trichotomy (tk t) (tk i.hi) with h2 | h2 | h2
  ·rw [fL h2]; cases i.openLo <;> cases i.openHi <;> simp <;> omega
  ·rw [h2,dO]; cases i.openLo <;> cases i.openHi <;> simp <;> omega
  ·rw [f7 h2]; cases i.openLo <;> cases i.openHi <;> simp <;> omega
 ·rw [h,dO]
  rcases Nat.lt_trichotomy (tk t) (tk i.hi) with h2 | h2 | h2
  ·rw [fL h2]; cases i.openLo <;> cases i.openHi <;> simp <;> omega
  ·rw [h2,dO]; cases i.openLo <;> cases i.openHi <;> simp <;> omega
  ·rw [f7 h2]; cases i.openLo <;> cases i.openHi <;> simp <;> omega
 ·rw [f7 h]
  cases i.openLo <;> cases i.openHi <;> simp <;> omega
theorem mR {i:Iv} {t t':GR} (hi:Tv i) (ht:Tm t) (ht':Tm t'):aT i t t' true=decide (dL i≤2*tk t+1∧(2*tk t':Int) - 1≤ee i):=by
 unfold aT
 rw [cond_true,hi.1.cmp ht,ht'.cmp hi.2]
 unfold dL ee
 have e1:decide (sgn (tk i.lo) (tk t)≤0)=decide (tk i.lo≤tk t):=by
  rcases Nat.lt_trichotomy (tk i.lo) (tk t) with h | h | h
  ·rw [fL h]; simp; omega
  ·rw [h,dO]; simp
  ·rw [f7 h]; simp; omega
 have e2:decide (sgn (tk t') (tk i.hi)≤0)=decide (tk t'≤tk i.hi):=by
  rcases Nat.lt_trichotomy (tk t') (tk i.hi) with h | h | h
  ·rw [fL h]; simp; omega
  ·rw [h,dO]; simp
  ·rw [f7 h]; simp; omega
 rw [e1,e2,← Bool.decide_and]
 apply decide_eq_decide.2
 cases i.openLo <;> cases i.openHi <;> simp <;> omega
def ptU {α:Type} (t:GR) (f:α):U α:=⟨⟨t,t,false,false⟩,f⟩
def m0 {α:Type} (t t':GR) (f:α):U α:=⟨⟨t,t',true,true⟩,f⟩
def atU {α:Type} (u:U α):List (U α) :=
 (bif u.iv.openLo then [] else [ptU u.iv.lo u.f])++(bif aM u.iv then [] else m0 u.iv.lo u.iv.hi u.f::(bif u.iv.openHi then [] else [ptU u.iv.hi u.f]))
theorem pM {α β:Type} (g:α→List β):∀ (l:List α) (o:List β),l.foldl (fun o u=>o++g u) o=o++l.flatMap g
 | [],o=>by simp
 | u::l,o=>by rw [List.foldl_cons,pM g l,List.flatMap_cons,List.append_assoc]
end Go.Sx
namespace Go.Sx
theorem pk {β:Type} {k:β→Nat}:∀ {l m:List β},(l.Pairwise fun a b=>k a < k b)→(m.Pairwise fun a b=>k a < k b)→(∀ x,x∈l↔x∈m)→l=m
 | [],[],_,_,_=>rfl
 | [],y::m,_,_,h=>by have:=(h y).2 (List.mem_cons_self ..); cases this
 | x::l,[],_,_,h=>by have:=(h x).1 (List.mem_cons_self ..); cases this
 | x::l,y::m,hl,hm,h=>by
  rw [List.pairwise_cons] at hl hm
  have e:x=y:=by
   rcases List.mem_cons.1 ((h x).1 (List.mem_cons_self ..)) with e | hx
   ·exact e
   ·rcases List.mem_cons.1 ((h y).2 (List.mem_cons_self ..)) with e | hy
    ·exact e.symm
    ·have h1:=hm.1 x hx
     have h2:=hl.1 y hy
     omega
  subst e
  refine congrArg (x::·) (pk hl.2 hm.2 fun z=>?_)
  constructor
  ·intro hz
   rcases List.mem_cons.1 ((h z).1 (List.mem_cons_of_mem _ hz)) with rfl | hz'
   ·exact absurd (hl.1 z hz) (Nat.lt_irrefl _)
   ·exact hz'
  ·intro hz
   rcases List.mem_cons.1 ((h z).2 (List.mem_cons_of_mem _ hz)) with rfl | hz'
   ·exact absurd (hm.1 z hz) (Nat.lt_irrefl _)
   ·exact hz'
def Dj (a b:Iv):Prop:=ee a < (dL b:Int)∨ee b < (dL a:Int)
theorem Dj.symm {a b:Iv} (h:Dj a b):Dj b a:=Or.symm h
theorem xj {β:Type} {R:β→β→Prop} (hs:∀ a b,R a b→R b a):∀ {l:List β},l.Pairwise R→∀ a∈l,∀ b∈l,a=b∨R a b
 | [],_,a,ha,_,_=>by cases ha
 | x::l,hp,a,ha,b,hb=>by
  rw [List.pairwise_cons] at hp
  rcases List.mem_cons.1 ha with e1 | ha2 <;> rcases List.mem_cons.1 hb with e2 | hb2
  ·exact .inl (e1.trans e2.symm)
  ·rw [e1]; exact .inr (hp.1 b hb2)
  ·rw [e2]; exact .inr (hs _ _ (hp.1 a ha2))
  ·exact xj hs hp.2 a ha2 b hb2
theorem end_out {v w:Iv} (hv:Wv v) (hw:Wv w) (h:v=w∨Dj v w) {t:GR} (ht:t=w.lo∨t=w.hi):¬ (tk v.lo < tk t∧tk t < tk v.hi):=by
 rintro ⟨h1,h2⟩
 have l1:=hv.le
 have l2:=hw.le
 rcases h with rfl | h
 ·rcases ht with rfl | rfl <;> omega
 ·unfold Dj at h
  have a1:2*tk v.lo≤dL v∧dL v≤2*tk v.lo+1:=by unfold dL; cases v.openLo <;> simp
  have a2:2*(tk v.hi:Int) - 1≤ee v∧ee v≤2*tk v.hi:=by unfold ee; cases v.openHi <;> simp <;> omega
  have b1:2*tk w.lo≤dL w∧dL w≤2*tk w.lo+1:=by unfold dL; cases w.openLo <;> simp
  have b2:2*(tk w.hi:Int) - 1≤ee w∧ee w≤2*tk w.hi:=by unfold ee; cases w.openHi <;> simp <;> omega
  rcases ht with rfl | rfl <;> rcases h with h | h <;> omega
section
variable {α:Type}
theorem sY:∀ {l:List (U α)} {a:At α},(∀ v∈l,aT v.iv a.frm a.til a.gap=false)→kx l a=a
 | [],a,_=>rfl
 | u::l,a,h=>by
  have e:lz u a=a:=by unfold lz; rw [h u (List.mem_cons_self ..)]; rfl
  show kx l (lz u a)=a
  rw [e]
  exact sY fun v hv=>h v (List.mem_cons_of_mem _ hv)
theorem pP {f:α}:∀ {l:List (U α)} {a:At α},(∀ v∈l,aT v.iv a.frm a.til a.gap=true→v.f=f)→(a=⟨a.frm,a.til,a.gap,true,f⟩∨∃ v∈l,aT v.iv a.frm a.til a.gap=true)→kx l a=⟨a.frm,a.til,a.gap,true,f⟩
 | [],a,_,h=>by
  rcases h with h | ⟨v,hv,_⟩
  ·exact h
  ·cases hv
 | u::l,a,hu,h=>by
  show kx l (lz u a)=_
  cases hb:aT u.iv a.frm a.til a.gap with
  | true =>
   have e:lz u a=⟨a.frm,a.til,a.gap,true,f⟩:=by
    unfold lz
    rw [hb,cond_true,hu u (List.mem_cons_self ..) hb]
   rw [e]
   exact pP (f:=f) (a:=⟨a.frm,a.til,a.gap,true,f⟩) (fun v hv=>hu v (List.mem_cons_of_mem _ hv)) (.inl rfl)
  | false =>
   have e:lz u a=a:=by unfold lz; rw [hb]; rfl
   rw [e]
   refine pP (fun v hv=>hu v (List.mem_cons_of_mem _ hv)) (h.imp id ?_)
   rintro ⟨v,hv,h1⟩
   rcases List.mem_cons.1 hv with rfl | hv
   ·rw [hb] at h1; cases h1
   ·exact ⟨v,hv,h1⟩
end
end Go.Sx
namespace Go.Sx
section
variable {α:Type}
theorem ki {z:α} {a:At α}:∀ {ts:List GR},a∈gf z ts↔(∃ t∈ts,a=ptA z t)∨∃ t t',(∃ p s,ts=p++t::t'::s)∧a=qP z t t'
 | []=>by
  constructor
  ·intro h; cases h
  ·rintro (⟨t,h,_⟩ | ⟨t,t',⟨p,s,h⟩,_⟩)
   ·cases h
   ·cases p <;> cases h
 | [t]=>by
  constructor
  ·intro h
   exact .inl ⟨t,List.mem_cons_self ..,List.mem_singleton.1 h⟩
  ·rintro (⟨x,h,e⟩ | ⟨x,t',⟨p,s,h⟩,_⟩)
   ·rw [e,List.mem_singleton.1 h]; exact List.mem_cons_self ..
   ·have:=congrArg List.length h
    simp at this
    omega
 | t::t'::r=>by
  have ih:=ki (z:=z) (a:=a) (ts:=t'::r)
  constructor
  ·intro h
   rcases List.mem_cons.1 h with e | h
   ·exact .inl ⟨t,List.mem_cons_self ..,e⟩
   ·rcases List.mem_cons.1 h with e | h
    ·exact .inr ⟨t,t',⟨[],r,rfl⟩,e⟩
    ·rcases ih.1 h with ⟨x,hx,e⟩ | ⟨x,y,⟨p,s,hs⟩,e⟩
     ·exact .inl ⟨x,List.mem_cons_of_mem _ hx,e⟩
     ·exact .inr ⟨x,y,⟨t::p,s,by rw [hs]; rfl⟩,e⟩
  ·rintro (⟨x,hx,e⟩ | ⟨x,y,⟨p,s,hs⟩,e⟩)
   ·rcases List.mem_cons.1 hx with rfl | hx
    ·rw [e]; exact List.mem_cons_self ..
    ·exact List.mem_cons_of_mem _ (List.mem_cons_of_mem _ (ih.2 (.inl ⟨x,hx,e⟩)))
   ·cases p with
    | nil =>
     rw [List.nil_append,List.cons.injEq,List.cons.injEq] at hs
     rw [e,← hs.1,← hs.2.1]
     exact List.mem_cons_of_mem _ (List.mem_cons_self ..)
    | cons q p =>
     rw [List.cons_append,List.cons.injEq] at hs
     exact List.mem_cons_of_mem _ (List.mem_cons_of_mem _ (ih.2 (.inr ⟨x,y,⟨p,s,hs.2⟩,e⟩)))
end
theorem rm {ts:List GR} (h:Ts ts) {t t':GR}:(∃ p s,ts=p++t::t'::s)↔t∈ts∧t'∈ts∧tk t < tk t'∧∀ x∈ts,¬ (tk t < tk x∧tk x < tk t'):=by
 constructor
 ·rintro ⟨p,s,rfl⟩
  have hp:=h.2
  rw [List.pairwise_append,List.pairwise_cons,List.pairwise_cons] at hp
  refine ⟨by simp,by simp,hp.2.1.1 t' (List.mem_cons_self ..),fun x hx=>?_⟩
  rcases List.mem_append.1 hx with hx | hx
  ·have:=hp.2.2 x hx t (List.mem_cons_self ..); omega
  ·rcases List.mem_cons.1 hx with rfl | hx
   ·omega
   ·rcases List.mem_cons.1 hx with rfl | hx
    ·omega
    ·have:=hp.2.1.2.1 x hx; omega
 ·rintro ⟨h1,h2,h3,h4⟩
  obtain ⟨p,s,rfl⟩:=List.append_of_mem h1
  have hp:=h.2
  rw [List.pairwise_append,List.pairwise_cons] at hp
  have h5:t'∈s:=by
   rcases List.mem_append.1 h2 with h2 | h2
   ·have:=hp.2.2 t' h2 t (List.mem_cons_self ..); omega
   ·rcases List.mem_cons.1 h2 with rfl | h2
    ·omega
    ·exact h2
  cases s with
  | nil=>cases h5
  | cons x s =>
   refine ⟨p,s,?_⟩
   rcases List.mem_cons.1 h5 with rfl | h6
   ·rfl
   ·rw [List.pairwise_cons] at hp
    have e1:=hp.2.1.1 x (List.mem_cons_self ..)
    have e2:=hp.2.1.2.1 t' h6
    exact absurd ⟨e1,e2⟩ (h4 x (by simp))
section
variable {α:Type}
def plA (a:At α):Nat:=2*tk a.frm+(bif a.gap then 1 else 0)
theorem qg {z:α}:∀ {ts:List GR},(ts.Pairwise fun x y=>tk x < tk y)→(gf z ts).Pairwise (fun a b=>plA a < plA b)∧∀ a∈gf z ts,∀ t∈ts.head?,2*tk t≤plA a
 | [],_=>⟨.nil,fun a h=>by cases h⟩
 | [t],_=>⟨List.pairwise_singleton _ _,fun a h x hx=>by
  rw [List.mem_singleton.1 h]
  cases hx
  simp [plA,ptA]⟩
 | t::t'::r,hp=>by
  rw [List.pairwise_cons] at hp
  obtain ⟨i1,i2⟩:=qg (z:=z) hp.2
  have h0:=hp.1 t' (List.mem_cons_self ..)
  have i3:∀ a∈gf z (t'::r),2*tk t'≤plA a:=fun a ha=>i2 a ha t' rfl
  constructor
  ·show (ptA z t::qP z t t'::gf z (t'::r)).Pairwise _
   rw [List.pairwise_cons,List.pairwise_cons]
   refine ⟨fun a ha=>?_,fun a ha=>?_,i1⟩
   ·rcases List.mem_cons.1 ha with rfl | ha
    ·simp [plA,ptA,qP]
    ·have:=i3 a ha
     simp [plA,ptA] at this ⊢
     omega
   ·have:=i3 a ha
    simp [plA,qP] at this ⊢
    omega
  ·intro a ha x hx
   cases hx
   rcases List.mem_cons.1 ha with rfl | ha
   ·simp [plA,ptA]
   ·rcases List.mem_cons.1 ha with rfl | ha
    ·simp [plA,qP]
    ·have:=i3 a ha
     omega
end
end Go.Sx
namespace Go.Sx
theorem fst_b (i:Iv):2*tk i.lo≤dL i∧dL i≤2*tk i.lo+1:=by unfold dL; cases i.openLo <;> simp
theorem xI (i:Iv):2*(tk i.hi:Int) - 1≤ee i∧ee i≤2*tk i.hi:=by unfold ee; cases i.openHi <;> simp <;> omega
section
variable {α:Type}
def toU (a:At α):U α:=⟨⟨a.frm,a.til,a.gap,a.gap⟩,a.f⟩
theorem rv {u w:U α}:w∈atU u↔(u.iv.openLo=false∧w=ptU u.iv.lo u.f)∨(aM u.iv=false∧w=m0 u.iv.lo u.iv.hi u.f)∨(aM u.iv=false∧u.iv.openHi=false∧w=ptU u.iv.hi u.f):=by
 unfold atU
 cases u.iv.openLo <;> cases aM u.iv <;> cases u.iv.openHi <;> simp
theorem xO {u:List (U α)} (hW:∀ x∈u,Wv x.iv) (hD:u.Pairwise fun a b=>Dj a.iv b.iv) {a:At α} (ha:Tm a.frm∧Tm a.til∧(a.gap=false→a.til=a.frm)∧(a.gap=true→tk a.frm < tk a.til))
 {v w:U α} (hv:v∈u) (hw:w∈u) (h1:aT v.iv a.frm a.til a.gap=true) (h2:aT w.iv a.frm a.til a.gap=true):v=w:=by
 rcases xj (fun a b h=>Dj.symm h) hD v hv w hw with e | h
 ·exact e
 ·exfalso
  unfold Dj at h
  cases hg:a.gap with
  | false =>
   rw [hg,ha.2.2.1 hg,mC (hW v hv).1 ha.1,decide_eq_true_eq] at h1
   rw [hg,ha.2.2.1 hg,mC (hW w hw).1 ha.1,decide_eq_true_eq] at h2
   omega
  | true =>
   have hlt:=ha.2.2.2 hg
   rw [hg,mR (hW v hv).1 ha.1 ha.2.1,decide_eq_true_eq] at h1
   rw [hg,mR (hW w hw).1 ha.1 ha.2.1,decide_eq_true_eq] at h2
   omega
theorem rI {u:List (U α)} (hW:∀ x∈u,Wv x.iv) (hD:u.Pairwise fun a b=>Dj a.iv b.iv) {a:At α} (ha:Tm a.frm∧Tm a.til∧(a.gap=false→a.til=a.frm)∧(a.gap=true→tk a.frm < tk a.til))
 {v:U α} (hv:v∈u) (h1:aT v.iv a.frm a.til a.gap=true):kx u a=⟨a.frm,a.til,a.gap,true,v.f⟩ :=
 pP (fun w hw h2=>by rw [xO hW hD ha hv hw h1 h2]) (.inr ⟨v,hv,h1⟩)
theorem uX {u:List (U α)} {a:At α} (ha:a.has=false) (h:(kx u a).has=true):∃ v∈u,aT v.iv a.frm a.til a.gap=true:=by
 by_cases hx:∃ v∈u,aT v.iv a.frm a.til a.gap=true
 ·exact hx
 ·rw [sY (fun v hv=>by
   cases hb:aT v.iv a.frm a.til a.gap with
   | false=>rfl
   | true=>exact absurd ⟨v,hv,hb⟩ hx)] at h
  rw [ha] at h; cases h
theorem xE {z:α} {u:List (U α)} (hW:∀ x∈u,Wv x.iv) (hD:u.Pairwise fun a b=>Dj a.iv b.iv) {E:List GR} (hE:Ts E) (hm:∀ y,y∈E↔∃ i∈u.map (·.iv),y=i.lo∨y=i.hi) {w:U α} :
 w∈((iH z u E).filter (·.has)).map toU↔∃ v∈u,w∈atU v:=by
 have hend:∀ v∈u,∀ t∈E,¬ (tk v.iv.lo < tk t∧tk t < tk v.iv.hi):=fun v hv t ht=>by
  obtain ⟨i,hi,ht⟩:=(hm t).1 ht
  obtain ⟨x,hx,rfl⟩:=List.mem_map.1 hi
  exact end_out (hW v hv) (hW x hx) ((xj (fun a b h=>Dj.symm h) hD v hv x hx).imp (fun e=>by rw [e]) id) ht
 have hlo:∀ v∈u,v.iv.lo∈E:=fun v hv=>(hm _).2 ⟨_,List.mem_map_of_mem hv,.inl rfl⟩
 have hhi:∀ v∈u,v.iv.hi∈E:=fun v hv=>(hm _).2 ⟨_,List.mem_map_of_mem hv,.inr rfl⟩
 have okP:∀ t∈E,Tm (ptA z t).frm∧Tm (ptA z t).til∧((ptA z t).gap=false→(ptA z t).til=(ptA z t).frm)∧((ptA z t).gap=true→tk (ptA z t).frm < tk (ptA z t).til):=fun t ht=>⟨hE.1 t ht,hE.1 t ht,fun _=>rfl,fun h=>(by cases h)⟩
 have okG:∀ t∈E,∀ t'∈E,tk t < tk t'→Tm (qP z t t').frm∧Tm (qP z t t').til∧((qP z t t').gap=false→(qP z t t').til=(qP z t t').frm)∧((qP z t t').gap=true→tk (qP z t t').frm < tk (qP z t t').til):=fun t ht t' ht' h=>⟨hE.1 t ht,hE.1 t' ht',fun h=>(by cases h),fun _=>h⟩
 constructor
 ·intro h
  obtain ⟨b,hb,rfl⟩:=List.mem_map.1 h
  obtain ⟨hb,hhas⟩:=List.mem_filter.1 hb
  obtain ⟨a,ha,rfl⟩:=List.mem_map.1 hb
  rcases ki.1 ha with ⟨t,ht,rfl⟩ | ⟨t,t',hn,rfl⟩
  ·obtain ⟨v,hv,hin⟩:=uX rfl hhas
   rw [rI hW hD (okP t ht) hv hin]
   have hin':=hin
   rw [show aT v.iv (ptA z t).frm (ptA z t).til (ptA z t).gap=aT v.iv t t false from rfl,mC (hW v hv).1 (hE.1 t ht),decide_eq_true_eq] at hin'
   refine ⟨v,hv,rv.2 ?_⟩
   have hs:=hend v hv t ht
   have hwv:=hW v hv
   rw [kw hwv.1]
   have fb:=fst_b v.iv
   have lb:=xI v.iv
   by_cases e:tk v.iv.lo=tk t
   ·have e2:=(hwv.1.1.inj (hE.1 t ht)).1 e
    refine .inl ⟨?_,by rw [e2]; rfl⟩
    cases ho:v.iv.openLo with
    | false=>rfl
    | true=>unfold dL ee at hin'; rw [ho] at hin'; simp at hin'; omega
   ·have e3:tk v.iv.hi=tk t:=by omega
    have e2:=(hwv.1.2.inj (hE.1 t ht)).1 e3
    refine .inr (.inr ⟨decide_eq_false og,?_,by rw [e2]; rfl⟩)
    cases ho:v.iv.openHi with
    | false=>rfl
    | true=>unfold dL ee at hin'; rw [ho] at hin'; simp at hin'; omega
  ·obtain ⟨ht,ht',hlt,hbt⟩:=(rm hE).1 hn
   obtain ⟨v,hv,hin⟩:=uX rfl hhas
   rw [rI hW hD (okG t ht t' ht' hlt) hv hin]
   have hin':=hin
   rw [show aT v.iv (qP z t t').frm (qP z t t').til (qP z t t').gap=aT v.iv t t' true from rfl,mR (hW v hv).1 (hE.1 t ht) (hE.1 t' ht'),decide_eq_true_eq] at hin'
   refine ⟨v,hv,rv.2 ?_⟩
   have hwv:=hW v hv
   have hs:=hend v hv t ht
   have hs':=hend v hv t' ht'
   have fb:=fst_b v.iv
   have lb:=xI v.iv
   have e1:tk v.iv.lo=tk t:=by omega
   have e2:tk v.iv.hi=tk t':=by omega
   rw [kw hwv.1]
   refine .inr (.inl ⟨decide_eq_false og,?_⟩)
   rw [(hwv.1.1.inj (hE.1 t ht)).1 e1,(hwv.1.2.inj (hE.1 t' ht')).1 e2]
   rfl
 ·rintro ⟨v,hv,hw⟩
  have hwv:=hW v hv
  have hle:=hwv.le
  rw [rv,kw hwv.1] at hw
  have fin:∀ a:At α,a∈gf z E→(Tm a.frm∧Tm a.til∧(a.gap=false→a.til=a.frm)∧(a.gap=true→tk a.frm < tk a.til))→aT v.iv a.frm a.til a.gap=true→(⟨⟨a.frm,a.til,a.gap,a.gap⟩,v.f⟩:U α)∈((iH z u E).filter (·.has)).map toU:=fun a h1 h2 h3=>by
   refine List.mem_map.2 ⟨kx u a,List.mem_filter.2 ⟨List.mem_map_of_mem h1,?_⟩,?_⟩
   ·rw [rI hW hD h2 hv h3]
   ·rw [rI hW hD h2 hv h3]; rfl
  rcases hw with ⟨ho,rfl⟩ | ⟨hi,rfl⟩ | ⟨hi,ho,rfl⟩
  ·refine fin (ptA z v.iv.lo) (ki.2 (.inl ⟨_,hlo v hv,rfl⟩)) (okP _ (hlo v hv)) ?_
   show aT v.iv v.iv.lo v.iv.lo false=true
   rw [mC hwv.1 hwv.1.1,decide_eq_true_eq]
   unfold dL at hle ⊢
   rw [ho] at hle ⊢
   simp at hle ⊢
   exact hle
  ·have hne:=of_decide_eq_false hi
   have hlt:tk v.iv.lo < tk v.iv.hi:=by have:=hwv.2.1; omega
   refine fin (qP z v.iv.lo v.iv.hi) (ki.2 (.inr ⟨_,_,(rm hE).2 ⟨hlo v hv,hhi v hv,hlt,fun x hx=>hend v hv x hx⟩,rfl⟩)) (okG _ (hlo v hv) _ (hhi v hv) hlt) ?_
   show aT v.iv v.iv.lo v.iv.hi true=true
   rw [mR hwv.1 hwv.1.1 hwv.1.2,decide_eq_true_eq]
   unfold dL ee
   cases v.iv.openLo <;> cases v.iv.openHi <;> simp <;> omega
  ·refine fin (ptA z v.iv.hi) (ki.2 (.inl ⟨_,hhi v hv,rfl⟩)) (okP _ (hhi v hv)) ?_
   show aT v.iv v.iv.hi v.iv.hi false=true
   rw [mC hwv.1 hwv.1.2,decide_eq_true_eq]
   unfold ee at hle ⊢
   rw [ho] at hle ⊢
   simp at hle ⊢
   omega
end
end Go.Sx
namespace Go.Sx
section
variable {α:Type}
theorem gG:∀ (u:List (U α)) (a:At α),(kx u a).frm=a.frm∧(kx u a).gap=a.gap∧(kx u a).til=a.til
 | [],_=>⟨rfl,rfl,rfl⟩
 | x::u,a=>by
  obtain ⟨h1,h2,h3⟩:=gG u (lz x a)
  have e:(lz x a).frm=a.frm∧(lz x a).gap=a.gap∧(lz x a).til=a.til:=by
   unfold lz
   cases aT x.iv a.frm a.til a.gap <;> exact ⟨rfl,rfl,rfl⟩
  exact ⟨h1.trans e.1,h2.trans e.2.1,h3.trans e.2.2⟩
theorem toU_pl (a:At α):dL (toU a).iv=plA a:=by unfold dL plA toU; cases a.gap <;> rfl
theorem xW (u:List (U α)) (a:At α):plA (kx u a)=plA a:=by
 unfold plA
 rw [(gG u a).1,(gG u a).2.1]
theorem tq {z:α} {u:List (U α)} {E:List GR} (hE:Ts E):(((iH z u E).filter (·.has)).map toU).Pairwise fun a b=>dL a.iv < dL b.iv:=by
 rw [List.pairwise_map]
 refine List.Pairwise.imp (fun {a b} h=>by rw [toU_pl,toU_pl]; exact h) (List.Pairwise.filter _ (R:=fun a b=>plA a < plA b) ?_)
 unfold iH
 rw [List.pairwise_map]
 exact (qg (z:=z) hE.2).1.imp fun {a b} h=>by rw [xW,xW]; exact h
theorem atU_pl {v w:U α} (hv:Wv v.iv) (hw:w∈atU v):dL v.iv≤dL w.iv∧(dL w.iv:Int)≤ee v.iv:=by
 have hle:=hv.le
 have fb:=fst_b v.iv
 have lb:=xI v.iv
 rw [rv,kw hv.1] at hw
 rcases hw with ⟨ho,rfl⟩ | ⟨hi,rfl⟩ | ⟨hi,ho,rfl⟩
 ·have e:dL (ptU v.iv.lo v.f).iv=dL v.iv:=by unfold dL ptU; rw [ho]
  rw [e]; exact ⟨Nat.le_refl _,hle⟩
 ·have hne:=of_decide_eq_false hi
  have h1:=hv.2.1
  have e:dL (m0 v.iv.lo v.iv.hi v.f).iv=2*tk v.iv.lo+1:=by unfold dL m0; rfl
  rw [e]
  constructor
  ·omega
  ·omega
 ·have e:dL (ptU v.iv.hi v.f).iv=2*tk v.iv.hi:=by unfold dL ptU; rfl
  have e2:ee v.iv=2*tk v.iv.hi:=by unfold ee; rw [ho]; simp
  rw [e,e2]
  constructor
  ·omega
  ·omega
theorem we {v:U α} (hv:Wv v.iv):(atU v).Pairwise fun a b=>dL a.iv < dL b.iv:=by
 have h1:=hv.2.1
 unfold atU
 rw [kw hv.1]
 by_cases e:tk v.iv.lo=tk v.iv.hi
 ·rw [decide_eq_true e]
  cases v.iv.openLo <;> simp
 ·rw [decide_eq_false e]
  cases v.iv.openLo <;> cases v.iv.openHi <;> simp [dL,ptU,m0] <;> omega
theorem atoms_eq {z:α} {u s:List (U α)} (hW:∀ x∈u,Wv x.iv) (hD:u.Pairwise fun a b=>Dj a.iv b.iv) (hp:s.Perm u) (hs:s.Pairwise fun a b=>kU a.iv≤kU b.iv) :
 s.flatMap atU=((iH z u (kG (u.map (·.iv)))).filter (·.has)).map toU:=by
 obtain ⟨hE,hm⟩:=mT (l:=u.map (·.iv)) (fun i hi=>by obtain ⟨x,hx,rfl⟩:=List.mem_map.1 hi; exact (hW x hx).1)
 refine pk (k:=fun w=>dL w.iv) ?_ (tq hE) fun w=>?_
 ·rw [List.pairwise_flatMap]
  refine ⟨fun v hv=>we (hW v (hp.mem_iff.1 hv)),?_⟩
  have hDs:s.Pairwise fun a b=>Dj a.iv b.iv:=(hp.pairwise_iff fun {a b} h=>Dj.symm h).2 hD
  have hboth:=hs.and hDs
  refine hboth.imp_of_mem fun {a b} ha hb h x hx y hy=>?_
  have ha':=hW a (hp.mem_iff.1 ha)
  have hb':=hW b (hp.mem_iff.1 hb)
  obtain ⟨_,x2⟩:=atU_pl ha' hx
  obtain ⟨y1,_⟩:=atU_pl hb' hy
  have l1:=ha'.le
  have l2:=hb'.le
  have t1:=tC ha'.1.2
  have t2:=tC hb'.1.2
  obtain ⟨hk,hd⟩:=h
  have ek:∀ i:Iv,kU i=dL i*100000+tk i.hi:=fun i=>by unfold kU dL; rw [Nat.mul_comm 2]
  rw [ek,ek] at hk
  unfold Dj at hd
  omega
 ·rw [xE hW hD hE hm,List.mem_flatMap]
  constructor
  ·rintro ⟨v,hv,h⟩; exact ⟨v,hp.mem_iff.1 hv,h⟩
  ·rintro ⟨v,hv,h⟩; exact ⟨v,hp.mem_iff.2 hv,h⟩
end
end Go.Sx
namespace Go.Sx
theorem po {R:Type} {B:Nat→Nx Nat R} {n:Nat} {bad:Nat→Bool} {r:R} (h:∀ i,i < n→B i=bif bad i then .ret r else .go (i+1)) (ho:B n=.out n) :
 ∀ (k a:Nat),a≤n→n - a < k→(∀ i,a≤i→i < n→bad i=false)→br B k a=.inl n
 | k+1,a,ha,hk,hb=>by
  by_cases e:a=n
  ·subst e; exact fF k ho
  ·have h1:=h a og
   rw [hb a (Nat.le_refl _) og,cond_false] at h1
   rw [eW k h1]
   exact po h ho k (a+1) og og fun i h1 h2=>hb i og h2
end Go.Sx
namespace Go.Sx
section
variable {α:Type}
theorem kU_eq (i:Iv):kU i=dL i*100000+tk i.hi:=by unfold kU dL; rw [Nat.mul_comm 2]
theorem ns {u s:List (U α)} (hW:∀ x∈u,Wv x.iv) (hD:u.Pairwise fun a b=>Dj a.iv b.iv) (hp:s.Perm u) (hs:s.Pairwise fun a b=>kU a.iv≤kU b.iv):s.Pairwise fun a b=>ee a.iv < (dL b.iv:Int):=by
 have hDs:s.Pairwise fun a b=>Dj a.iv b.iv:=(hp.pairwise_iff fun {a b} h=>Dj.symm h).2 hD
 refine (hs.and hDs).imp_of_mem fun {a b} ha hb h=>?_
 have ha':=hW a (hp.mem_iff.1 ha)
 have hb':=hW b (hp.mem_iff.1 hb)
 have l1:=ha'.le
 have l2:=hb'.le
 have t1:=tC ha'.1.2
 have t2:=tC hb'.1.2
 obtain ⟨hk,hd⟩:=h
 rw [kU_eq,kU_eq] at hk
 unfold Dj at hd
 omega
theorem fK {β:Type} [Inhabited β] {l:List β} {i:Nat} (h:i < l.length):gt l i=l[i]:=by
 simp [gt,List.getD,List.getElem?_eq_getElem h]
theorem chain_pw [Inhabited (U α)] {s:List (U α)} (hW:∀ x∈s,Wv x.iv) (h:∀ i,0 < i→i < s.length→ef (gt s (i - 1)).iv (gt s i).iv=true):s.Pairwise fun a b=>ee a.iv < (dL b.iv:Int):=by
 rw [List.pairwise_iff_getElem]
 have key:∀ (d i:Nat) (hj:i+d+1 < s.length),ee (s[i]'(by omega)).iv < (dL s[i+d+1].iv:Int):=by
  intro d
  induction d with
  | zero =>
   intro i hj
   have h1:=h (i+1) og hj
   rw [fK hj,fK (by omega:i+1 - 1 < s.length),mJ (hW _ (List.getElem_mem _)).1 (hW _ (List.getElem_mem _)).1,decide_eq_true_eq] at h1
   exact h1
  | succ d ih =>
   intro i hj
   have h0:=ih i og
   have hj':i+d+1+1 < s.length:=by omega
   have h1:=h (i+d+1+1) og hj'
   rw [fK hj',fK (by omega:i+d+1+1 - 1 < s.length),mJ (hW _ (List.getElem_mem _)).1 (hW _ (List.getElem_mem _)).1,decide_eq_true_eq] at h1
   have h2:=(hW (s[i+d+1]'(by omega)) (List.getElem_mem _)).le
   have h3:ee (s[i+d+1]'(by omega)).iv < (dL s[i+d+1+1].iv:Int):=h1
   have h4:(dL (s[i+d+1]'(by omega)).iv:Int) < dL s[i+d+1+1].iv:=by omega
   exact Int.lt_trans h0 h4
 intro i j hi hj hij
 have:=key (j - i - 1) i og
 simpa only [show i+(j - i - 1)+1=j by omega] using this
theorem nS [Inhabited (U α)] {u s:List (U α)} (hW:∀ x∈u,Wv x.iv) (hp:s.Perm u) (hs:s.Pairwise fun a b=>kU a.iv≤kU b.iv) :
 (∀ i,0 < i→i < s.length→ef (gt s (i - 1)).iv (gt s i).iv=true)↔u.Pairwise fun a b=>Dj a.iv b.iv:=by
 constructor
 ·intro h
  have:=chain_pw (fun x hx=>hW x (hp.mem_iff.1 hx)) h
  exact (hp.pairwise_iff fun {a b} h=>Dj.symm h).1 (this.imp fun h=>.inl h)
 ·intro h i h0 h1
  have hd:=ns hW h hp hs
  rw [List.pairwise_iff_getElem] at hd
  have:=hd (i - 1) i og h1 og
  rw [fK h1,fK (by omega:i - 1 < s.length),mJ (hW _ (hp.mem_iff.1 (List.getElem_mem _))).1 (hW _ (hp.mem_iff.1 (List.getElem_mem _))).1,decide_eq_true_eq]
  exact this
end
end Go.Sx
namespace Go.Sx
theorem rT {α:Type} {z:α} {E:List GR} (hE:Ts E) {a:At α} (ha:a∈gf z E):Tm a.frm∧Tm a.til∧(a.gap=false→a.til=a.frm)∧(a.gap=true→tk a.frm < tk a.til):=by
 rcases ki.1 ha with ⟨t,ht,rfl⟩ | ⟨t,t',hn,rfl⟩
 ·exact ⟨hE.1 t ht,hE.1 t ht,fun _=>rfl,fun h=>(by cases h)⟩
 ·obtain ⟨h1,h2,h3,_⟩:=(rm hE).1 hn
  exact ⟨hE.1 t h1,hE.1 t' h2,fun h=>(by cases h),fun _=>h3⟩
end Go.Sx
namespace Go.Sx
theorem tk_at (n:Nat) (r:Bool) (hn:n < 45):tk (ae (n:Int) r)=10*n+10+(bif r then 14 else 0):=by
 have h:((List.range 45).all fun i=>(tk (ae (Int.ofNat i) false) == 10*i+10) && (tk (ae (Int.ofNat i) true) == 10*i+10+14))=true:=by decide +kernel
 have h1:=List.all_eq_true.1 h n (List.mem_range.2 hn)
 simp only [Bool.and_eq_true,beq_iff_eq] at h1
 cases r
 ·exact h1.1
 ·exact h1.2
theorem tm_at (n:Nat) (r:Bool) (hn:n < 45):Tm (ae (n:Int) r):=⟨n,r,by omega,rfl⟩
end Go.Sx
namespace Go.Sx
section
variable {α:Type} [Inhabited α] (eqf:α→α→Bool) (same:α→α→GR→Bool) (red:α→GR→α)
def tp (L out:List (U α)) (x:Nat):Bool:=(decide ((out.length:Int)>0) && decide ((gt out (out.length - 1)).iv.hi=(gt L x).iv.lo)) && !(aM (gt out (out.length - 1)).iv)
def ly (out:List (U α)) (t:GR):Bool:=(decide ((out.length:Int)>0) && decide ((gt out (out.length - 1)).iv.hi=t)) && !((gt out (out.length - 1)).iv.openHi)
def jm (L out:List (U α)) (x:Nat):List (U α) :=
 bif ((((decide ((x:Int)>0)) && (aM ((gt L (x - 1)).iv))) && (decide (((gt L (x - 1)).iv).lo=((gt L x).iv).lo))) && (!(ly out (((gt L x).iv).lo)))) then
  out++[(⟨(⟨((gt L x).iv).lo,((gt L x).iv).hi,false,((gt L x).iv).openHi⟩:Iv),(gt L x).f⟩:U α)]
 else out++[gt L x]
def ks (L out:List (U α)) (x:Nat):List (U α) :=
 bif (((decide (((x+1:Nat):Int) < (L.length:Int))) && (decide (((gt L (x+1)).iv).lo=((gt L x).iv).lo))) && (same ((gt L (x+1)).f) ((gt L x).f) (((gt L x).iv).lo))) then out
 else out++[(⟨(gt L x).iv,(red ((gt L x).f) (((gt L x).iv).lo))⟩:U α)]
def dA (L out:List (U α)) (x:Nat):List (U α) :=
 bif tp L out x then
  bif (!(aM ((gt L x).iv))) then
   bif ((!((gt out (out.length - 1)).iv).openHi) && (eqf ((gt out (out.length - 1)).f) ((gt L x).f))) then
    out.set (out.length - 1) (⟨(⟨((gt out (out.length - 1)).iv).lo,((gt L x).iv).hi,((gt out (out.length - 1)).iv).openLo,true⟩:Iv),(gt out (out.length - 1)).f⟩:U α)
   else jm L out x
  else
   bif (same ((gt out (out.length - 1)).f) ((gt L x).f) (((gt L x).iv).lo)) then
    out.set (out.length - 1) (⟨(⟨((gt out (out.length - 1)).iv).lo,((gt out (out.length - 1)).iv).hi,((gt out (out.length - 1)).iv).openLo,false⟩:Iv),(gt out (out.length - 1)).f⟩:U α)
   else ks same red L out x
 else
  bif (!(aM ((gt L x).iv))) then jm L out x else ks same red L out x
def eR (l:List (At α)) (out:List (U α)) (i:Nat):List (U α) :=
 bif (!(gt l i).has) then out
 else bif (gt l i).gap then
  bif (((((decide ((i:Int)≥2)) && (gt l (i - 2)).has) && (gt l (i - 1)).has) && (same ((gt l (i - 2)).f) ((gt l (i - 1)).f) ((gt l i).frm))) && (eqf ((gt l (i - 2)).f) ((gt l i).f))) then
   out.set (out.length - 1) (⟨(⟨((gt out (out.length - 1)).iv).lo,(gt l i).til,((gt out (out.length - 1)).iv).openLo,true⟩:Iv),(gt out (out.length - 1)).f⟩:U α)
  else
   out++[(⟨(⟨(gt l i).frm,(gt l i).til,(!(((gt l (i - 1)).has && (same ((gt l i).f) ((gt l (i - 1)).f) ((gt l i).frm))) && (!(((decide ((i:Int)≥2)) && (gt l (i - 2)).has) && (same ((gt l (i - 2)).f) ((gt l (i - 1)).f) ((gt l i).frm)))))),true⟩:Iv),(gt l i).f⟩:U α)]
 else
  bif (((decide ((i:Int)>0)) && (gt l (i - 1)).has) && (same ((gt l (i - 1)).f) ((gt l i).f) ((gt l i).frm))) then
   out.set (out.length - 1) (⟨(⟨((gt out (out.length - 1)).iv).lo,((gt out (out.length - 1)).iv).hi,((gt out (out.length - 1)).iv).openLo,false⟩:Iv),(gt out (out.length - 1)).f⟩:U α)
  else
   bif (((decide (((i+1:Nat):Int) < (l.length:Int))) && (gt l (i+1)).has) && (same ((gt l (i+1)).f) ((gt l i).f) ((gt l i).frm))) then out
   else out++[(⟨(⟨(gt l i).frm,(gt l i).til,false,false⟩:Iv),(red ((gt l i).f) ((gt l i).frm))⟩:U α)]
end
theorem t8 {S R:Type} {b:Bool} {X Y:Nx (S×Nat) R} {p q:S} {k:Nat} (h1:X=.go (p,k)) (h2:Y=.go (q,k)):(bif b then X else Y)=.go (bif b then p else q,k):=by cases b <;> assumption
end Go.Sx
namespace Go.Sx
def ey {β:Type} (st:β→Nat→β) (o:β):Nat→β
 | 0=>o
 | n+1=>st (ey st o n) n
theorem pG {β R:Type} {st:β→Nat→β} {o:β} {n:Nat} {B:β×Nat→Nx (β×Nat) R} (hgo:∀ o i,i < n→B (o,i)=.go (st o i,i+1)) (hout:∀ o,B (o,n)=.out (o,n)) :
 ∀ (k i:Nat),i≤n→n - i < k→br B k (ey st o i,i)=.inl (ey st o n,n)
 | k+1,i,hi,hk=>by
  by_cases e:i=n
  ·subst e; exact fF k (hout _)
  ·rw [eW k (hgo _ i og)]
   exact pG hgo hout k (i+1) og og
end Go.Sx
namespace Go.Sx
section
variable {α:Type} [Inhabited α]
def kA (A:List (At α)):List (U α):=(A.filter (·.has)).map toU
def i5 (A:List (At α)) (i:Nat):Nat:=((A.take i).filter (·.has)).length
omit [Inhabited α] in
theorem rO (A:List (At α)):i5 A A.length=(kA A).length:=by unfold i5 kA; rw [List.take_length,List.length_map]
theorem wy {A:List (At α)} {i:Nat} (h:i < A.length):A.take (i+1)=A.take i++[gt A i]:=by
 rw [fK h,List.take_append_getElem]
theorem pe {A:List (At α)} {i:Nat} (h:i < A.length) (hh:(gt A i).has=true):i5 A (i+1)=i5 A i+1:=by
 unfold i5; rw [wy h,List.filter_append,List.filter_cons,if_pos hh]; simp
theorem rN {A:List (At α)} {i:Nat} (h:i < A.length) (hh:(gt A i).has=false):i5 A (i+1)=i5 A i:=by
 unfold i5; rw [wy h,List.filter_append,List.filter_cons,if_neg (by rw [hh]; decide)]; simp
omit [Inhabited α] in
theorem vT {A:List (At α)} (i:Nat):kA A=((A.take i).filter (·.has)).map toU++((A.drop i).filter (·.has)).map toU:=by
 unfold kA; rw [← List.map_append,← List.filter_append,List.take_append_drop]
theorem oi {A:List (At α)} {i:Nat} (h:i < A.length) (hh:(gt A i).has=true):i5 A i < (kA A).length∧gt (kA A) (i5 A i)=toU (gt A i):=by
 have e:A.drop i=gt A i::A.drop (i+1):=by rw [fK h]; exact List.drop_eq_getElem_cons h
 have e2:=vT (A:=A) i
 rw [e,List.filter_cons,if_pos hh,List.map_cons] at e2
 have hl:i5 A i=(((A.take i).filter (·.has)).map toU).length:=by rw [List.length_map]; rfl
 rw [e2,hl]
 refine ⟨by simp,oo rfl⟩
end
end Go.Sx
namespace Go.Sx
section
variable {α:Type} [Inhabited (At α)]
omit [Inhabited (At α)] in
theorem yI {z:α} {t:GR} {r:List GR}:∃ q,gf z (t::r)=ptA z t::q:=by
 cases r with
 | nil=>exact ⟨[],rfl⟩
 | cons t' r=>exact ⟨_,rfl⟩
theorem rU {z:α}:∀ {ts:List GR} (i:Nat),i < (gf z ts).length→(gt (gf z ts) i).gap=decide (i % 2=1)∧(i+1 < (gf z ts).length→(gt (gf z ts) (i+1)).frm=(gt (gf z ts) i).til)
 | [],i,h=>absurd h (Nat.not_lt_zero _)
 | [t],0,_=>⟨rfl,fun h=>absurd h (by simp [gf])⟩
 | [t],i+1,h=>absurd h (by simp [gf])
 | t::t'::r,0,_=>⟨rfl,fun _=>rfl⟩
 | t::t'::r,1,_=>by
  obtain ⟨q,hq⟩:=yI (z:=z) (t:=t') (r:=r)
  refine ⟨rfl,fun _=>?_⟩
  show (gt (gf z (t'::r)) 0).frm=t'
  rw [hq]; rfl
 | t::t'::r,i+2,h=>by
  have ih:=rU (z:=z) (ts:=t'::r) i (by simpa [gf] using h)
  refine ⟨?_,fun h2=>ih.2 (by simp [gf] at h2; omega)⟩
  show (gt (gf z (t'::r)) i).gap=_
  rw [ih.1,Nat.add_mod_right]
end
end Go.Sx
namespace Go.Sx
structure Turns {α:Type} [Inhabited α] (pl:GR→Nat) (A:List (At α)):Prop where
 gap:∀ i,i < A.length→(gt A i).gap=decide (i % 2=1)
 adj:∀ i,i+1 < A.length→(gt A (i+1)).frm=(gt A i).til
 pt:∀ i,i < A.length→(gt A i).gap=false→(gt A i).til=(gt A i).frm
 lt:∀ i,i < A.length→(gt A i).gap=true→pl (gt A i).frm < pl (gt A i).til
section
variable {α:Type} [Inhabited α] {pl:GR→Nat} {A:List (At α)}
theorem Turns.odd (h:Turns pl A) {i:Nat} (hi:i < A.length) (ho:i % 2=1):(gt A i).gap=true:=by rw [h.gap i hi]; exact decide_eq_true ho
theorem Turns.even (h:Turns pl A) {i:Nat} (hi:i < A.length) (ho:i % 2=0):(gt A i).gap=false:=by rw [h.gap i hi]; exact decide_eq_false og
theorem Turns.le1 (h:Turns pl A) {i:Nat} (hi:i < A.length):pl (gt A i).frm≤pl (gt A i).til:=by
 cases hg:(gt A i).gap with
 | false=>rw [h.pt i hi hg]; exact Nat.le_refl _
 | true=>exact Nat.le_of_lt (h.lt i hi hg)
theorem Turns.mono (h:Turns pl A) {i:Nat}:∀ (d:Nat),i+d+1 < A.length→pl (gt A i).til≤pl (gt A (i+d+1)).frm
 | 0,hd=>by rw [h.adj i hd]; exact Nat.le_refl _
 | d+1,hd=>by
  have h1:=Turns.mono h (i:=i) d og
  have h2:=h.le1 (by omega:i+d+1 < A.length)
  have h3:=h.adj (i+d+1) hd
  rw [show i+(d+1)+1=i+d+1+1 by omega,h3]
  omega
theorem Turns.mono' (h:Turns pl A) {i j:Nat} (hij:i < j) (hj:j < A.length):pl (gt A i).til≤pl (gt A j).frm:=by
 have:=h.mono (i:=i) (j - i - 1) og
 rwa [show i+(j - i - 1)+1=j by omega] at this
theorem uK:∀ (d i:Nat),A.length - i≤d→i≤A.length→i5 A i < (kA A).length→∃ j,i≤j∧j < A.length∧(gt A j).has=true∧i5 A j=i5 A i∧∀ k,i≤k→k < j→(gt A k).has=false
 | d,i,hd,hi,hc=>by
  by_cases e:i=A.length
  ·subst e; rw [rO] at hc; omega
  ·cases hh:(gt A i).has with
   | true=>exact ⟨i,Nat.le_refl _,by omega,hh,rfl,fun k h1 h2=>by omega⟩
   | false =>
    have h1:=rN (by omega:i < A.length) hh
    match d with
    | 0=>omega
    | d+1 =>
     obtain ⟨j,a1,a2,a3,a4,a5⟩:=uK d (i+1) og og (by rw [h1]; exact hc)
     refine ⟨j,by omega,a2,a3,by rw [a4,h1],fun k k1 k2=>?_⟩
     by_cases e:k=i
     ·subst e; exact hh
     ·exact a5 k og k2
theorem uF:∀ (i:Nat),i≤A.length→0 < i5 A i→∃ j,j < i∧(gt A j).has=true∧i5 A j+1=i5 A i∧∀ k,j < k→k < i→(gt A k).has=false
 | 0,_,hc=>by simp [i5] at hc
 | i+1,hi,hc=>by
  cases hh:(gt A i).has with
  | true=>exact ⟨i,Nat.lt_succ_self _,hh,(pe og hh).symm,fun k h1 h2=>by omega⟩
  | false =>
   have h1:=rN (by omega:i < A.length) hh
   obtain ⟨j,a1,a2,a3,a4⟩:=uF i og (by rw [← h1]; exact hc)
   refine ⟨j,by omega,a2,by rw [a3,h1],fun k k1 k2=>?_⟩
   by_cases e:k=i
   ·subst e; exact hh
   ·exact a4 k k1 og
variable (eqf:α→α→Bool) (same:α→α→GR→Bool) (red:α→GR→α)
def lst (out:List (U α)):U α:=gt out (out.length - 1)
theorem jJ (out:List (U α)) (x:U α):lst (out++[x])=x:=by
 unfold lst
 rw [List.length_append,List.length_singleton,Nat.add_sub_cancel,rF]
theorem tW {out:List (U α)} (h:0 < out.length) (x:U α):lst (out.set (out.length - 1) x)=x:=by
 unfold lst
 rw [List.length_set]
 exact sU og
theorem iV {L out:List (U α)} {x:Nat}:tp L out x=true↔0 < out.length∧(lst out).iv.hi=(gt L x).iv.lo∧(lst out).iv.lo≠(lst out).iv.hi:=by
 unfold tp lst aM
 simp only [Bool.and_eq_true,decide_eq_true_eq,Bool.not_eq_true',decide_eq_false_iff_not,ne_eq]
 constructor
 ·rintro ⟨⟨h1,h2⟩,h3⟩; exact ⟨by omega,h2,h3⟩
 ·rintro ⟨h1,h2,h3⟩; exact ⟨⟨by omega,h2⟩,h3⟩
theorem ig {out:List (U α)} {t:GR}:ly out t=true↔0 < out.length∧(lst out).iv.hi=t∧(lst out).iv.openHi=false:=by
 unfold ly lst
 simp only [Bool.and_eq_true,decide_eq_true_eq,Bool.not_eq_true']
 constructor
 ·rintro ⟨⟨h1,h2⟩,h3⟩; exact ⟨by omega,h2,h3⟩
 ·rintro ⟨h1,h2,h3⟩; exact ⟨⟨by omega,h2⟩,h3⟩
def InvE (pl:GR→Nat) (A:List (At α)) (out:List (U α)) (i:Nat):Prop :=
 ((0 < i∧(gt A (i - 1)).has=true)→0 < out.length∧(lst out).iv.hi=(gt A (i - 1)).til∧(lst out).iv.openHi=true∧pl (lst out).iv.lo < pl (lst out).iv.hi∧(lst out).f=(gt A (i - 1)).f) ∧
 (¬ (0 < i∧(gt A (i - 1)).has=true)→out.length=0∨(0 < i∧pl (lst out).iv.hi≤pl (gt A (i - 1)).frm))
def mgd (A:List (At α)) (i:Nat):Prop:=(gt A i).has=true∧0 < i∧(gt A (i - 1)).has=true∧same (gt A (i - 1)).f (gt A i).f (gt A i).frm=true
def lft (A:List (At α)) (i:Nat):Prop:=i+1 < A.length∧(gt A (i+1)).has=true∧same (gt A (i+1)).f (gt A i).f (gt A i).frm=true
def InvO (pl:GR→Nat) (A:List (At α)) (out:List (U α)) (i:Nat):Prop :=
 (mgd same A i→0 < out.length∧(lst out).iv.hi=(gt A i).frm∧(lst out).iv.openHi=false∧pl (lst out).iv.lo < pl (lst out).iv.hi∧(lst out).f=(gt A (i - 1)).f) ∧
 (¬ mgd same A i→((gt A i).has=false∨lft same A i)→InvE pl A out i) ∧
 (¬ mgd same A i→(gt A i).has=true→¬ lft same A i→0 < out.length∧(lst out).iv.lo=(gt A i).frm∧(lst out).iv.hi=(gt A i).frm∧(lst out).iv.openHi=false∧(lst out).f=red (gt A i).f (gt A i).frm)
variable {eqf same red}
theorem InvE.le (hA:Turns pl A) {out:List (U α)} {i:Nat} (hi:i < A.length) (h:InvE pl A out i):out.length=0∨pl (lst out).iv.hi≤pl (gt A i).frm:=by
 by_cases c:0 < i∧(gt A (i - 1)).has=true
 ·have e:=hA.adj (i - 1) og
  rw [show i - 1+1=i by omega] at e
  rw [(h.1 c).2.1,e]; exact .inr (Nat.le_refl _)
 ·rcases h.2 c with h1 | ⟨h0,h1⟩
  ·exact .inl h1
  ·have h2:=hA.mono' (by omega:i - 1 < i) hi
   have h3:=hA.le1 (by omega:i - 1 < A.length)
   exact .inr og
theorem InvO.le (hA:Turns pl A) {out:List (U α)} {i:Nat} (hi:i < A.length) (h:InvO same red pl A out i):out.length=0∨pl (lst out).iv.hi≤pl (gt A i).frm:=by
 by_cases m:mgd same A i
 ·rw [(h.1 m).2.1]; exact .inr (Nat.le_refl _)
 ·by_cases c:(gt A i).has=false∨lft same A i
  ·exact (h.2.1 m c).le hA hi
  ·have c1:(gt A i).has=true:=by cases hh:(gt A i).has with
    | true=>rfl
    | false=>exact absurd (.inl hh) c
   rw [(h.2.2 m c1 fun h=>c (.inr h)).2.2.1]; exact .inr (Nat.le_refl _)
theorem pt_step (hA:Turns pl A) {out:List (U α)} {i:Nat} (hi:i < A.length) (he:i % 2=0) (hh:(gt A i).has=true) (h:InvE pl A out i) :
 dA eqf same red (kA A) out (i5 A i)=eR eqf same red A out i∧InvO same red pl A (eR eqf same red A out i) i:=by
 have hg:=hA.even hi he
 have hp:=hA.pt i hi hg
 obtain ⟨hc,hx⟩:=oi hi hh
 have hv:(gt (kA A) (i5 A i)).iv=⟨(gt A i).frm,(gt A i).frm,false,false⟩:=by rw [hx]; unfold toU; rw [hg,hp]
 have hf:(gt (kA A) (i5 A i)).f=(gt A i).f:=by rw [hx]; rfl
 have hins:aM ⟨(gt A i).frm,(gt A i).frm,false,false⟩=true:=decide_eq_true rfl
 have e0:i5 A (i+1)=i5 A i+1:=pe hi hh
 have hnext:(decide (((i5 A i+1:Nat):Int) < ((kA A).length:Int)) && decide ((gt (kA A) (i5 A i+1)).iv.lo=(gt A i).frm) && same (gt (kA A) (i5 A i+1)).f (gt A i).f (gt A i).frm)
  = (decide (((i+1:Nat):Int) < (A.length:Int)) && (gt A (i+1)).has && same (gt A (i+1)).f (gt A i).f (gt A i).frm):=by
  by_cases hn:i+1 < A.length
  ·rw [decide_eq_true (by omega:((i+1:Nat):Int) < (A.length:Int)),Bool.true_and]
   have hgn:=hA.odd hn og
   cases hb:(gt A (i+1)).has with
   | true =>
    obtain ⟨k1,k2⟩:=oi hn hb
    rw [e0] at k1 k2
    rw [decide_eq_true (by omega:((i5 A i+1:Nat):Int) < ((kA A).length:Int)),k2]
    rw [show (toU (gt A (i+1))).iv.lo=(gt A i).frm by unfold toU; rw [hA.adj i hn,hp],decide_eq_true rfl]
    rfl
   | false =>
    rw [Bool.false_and]
    by_cases hl:i5 A i+1 < (kA A).length
    ·have e1:=rN hn hb
     obtain ⟨j,j1,j2,j3,j4,j5⟩:=uK (A:=A) A.length (i+1+1) og og (by rw [e1,e0]; exact hl)
     obtain ⟨_,k2⟩:=oi j2 j3
     rw [j4,e1,e0] at k2
     have hne:(gt A j).frm≠(gt A i).frm:=fun e=>by
      have q1:=hA.mono' (by omega:i+1 < j) j2
      have q2:=hA.lt (i+1) hn hgn
      have q3:=hA.adj i hn
      rw [hp] at q3
      have q4:=congrArg pl q3
      have q5:=congrArg pl e
      omega
     rw [k2,show (toU (gt A j)).iv.lo=(gt A j).frm from rfl,decide_eq_false hne]
     simp
    ·rw [decide_eq_false (by omega:¬ ((i5 A i+1:Nat):Int) < ((kA A).length:Int))]
     rfl
  ·rw [decide_eq_false (by omega:¬ ((i+1:Nat):Int) < (A.length:Int))]
   have e2:i+1=A.length:=by omega
   rw [e2,rO] at e0
   rw [decide_eq_false (by omega:¬ ((i5 A i+1:Nat):Int) < ((kA A).length:Int))]
   rfl
 by_cases m:mgd same A i
 ·obtain ⟨m1,m2,m3,m4⟩:=m
  obtain ⟨a1,a2,a3,a4,a5⟩:=h.1 ⟨m2,m3⟩
  have ea:=hA.adj (i - 1) og
  rw [show i - 1+1=i by omega] at ea
  have hb:tp (kA A) out (i5 A i)=true:=iV.2 ⟨a1,by rw [a2,hv,ea],fun e=>by rw [e] at a4; omega⟩
  have e1:dA eqf same red (kA A) out (i5 A i)=out.set (out.length - 1) ⟨⟨(lst out).iv.lo,(lst out).iv.hi,(lst out).iv.openLo,false⟩,(lst out).f⟩:=by
   unfold dA
   rw [hb,cond_true,hv,hins,Bool.not_true,cond_false,hf]
   rw [show same (gt out (out.length - 1)).f (gt A i).f (gt A i).frm=true from by rw [show (gt out (out.length - 1)).f=(gt A (i - 1)).f from a5]; exact m4,cond_true]
   rfl
  have e2:eR eqf same red A out i=out.set (out.length - 1) ⟨⟨(lst out).iv.lo,(lst out).iv.hi,(lst out).iv.openLo,false⟩,(lst out).f⟩:=by
   unfold eR
   rw [hh,Bool.not_true,cond_false,hg,cond_false,decide_eq_true (by omega:(i:Int)>0),m3,m4,Bool.and_self,Bool.and_self,cond_true]
   rfl
  refine ⟨e1.trans e2.symm,?_⟩
  rw [e2]
  refine ⟨fun _=>?_,fun k=>absurd ⟨m1,m2,m3,m4⟩ k,fun k=>absurd ⟨m1,m2,m3,m4⟩ k⟩
  rw [tW a1,List.length_set]
  exact ⟨a1,by rw [ea]; exact a2,rfl,a4,a5⟩
 ·
  have hmb:((decide ((i:Int)>0) && (gt A (i - 1)).has) && same (gt A (i - 1)).f (gt A i).f (gt A i).frm)=false:=by
   cases hq:((decide ((i:Int)>0) && (gt A (i - 1)).has) && same (gt A (i - 1)).f (gt A i).f (gt A i).frm) with
   | false=>rfl
   | true =>
    simp only [Bool.and_eq_true,decide_eq_true_eq] at hq
    exact absurd ⟨hh,by omega,hq.1.2,hq.2⟩ m
  have e1:dA eqf same red (kA A) out (i5 A i)=ks same red (kA A) out (i5 A i):=by
   unfold dA
   rw [hv,hins,Bool.not_true,cond_false,cond_false,hf]
   cases hb:tp (kA A) out (i5 A i) with
   | false=>rfl
   | true =>
    rw [cond_true]
    obtain ⟨b1,b2,b3⟩:=iV.1 hb
    rw [hv] at b2
    have hs:same (gt out (out.length - 1)).f (gt A i).f (gt A i).frm=false:=by
     by_cases c:0 < i∧(gt A (i - 1)).has=true
     ·rw [show (gt out (out.length - 1)).f=(gt A (i - 1)).f from (h.1 c).2.2.2.2]
      cases hs:same (gt A (i - 1)).f (gt A i).f (gt A i).frm with
      | false=>rfl
      | true=>exact absurd ⟨hh,c.1,c.2,hs⟩ m
     ·rcases h.2 c with h1 | ⟨h0,h1⟩
      ·omega
      ·have q1:=hA.lt (i - 1) og (hA.odd og og)
       have q2:=hA.adj (i - 1) og
       rw [show i - 1+1=i by omega] at q2
       have q3:pl (lst out).iv.hi=pl (gt A i).frm:=congrArg pl b2
       rw [q2] at q3
       omega
    rw [hs,cond_false]
  have e2:eR eqf same red A out i=ks same red (kA A) out (i5 A i):=by
   unfold eR ks
   rw [hh,Bool.not_true,cond_false,hg,cond_false,hmb,cond_false,hv,hf]
   rw [hnext,hp]
  refine ⟨e1.trans e2.symm,?_⟩
  rw [e2]
  refine ⟨fun k=>absurd k m,fun _ hl=>?_,fun _ _ hl=>?_⟩
  ·have hl:lft same A i:=hl.elim (fun e=>by rw [hh] at e; cases e) id
   have e3:ks same red (kA A) out (i5 A i)=out:=by
    unfold ks
    rw [hv,hf,hnext,decide_eq_true (by have:=hl.1; omega:((i+1:Nat):Int) < (A.length:Int)),hl.2.1,hl.2.2]
    rfl
   rw [e3]; exact h
  ·have hlb:(decide (((i+1:Nat):Int) < (A.length:Int)) && (gt A (i+1)).has && same (gt A (i+1)).f (gt A i).f (gt A i).frm)=false:=by
    cases hq:(decide (((i+1:Nat):Int) < (A.length:Int)) && (gt A (i+1)).has && same (gt A (i+1)).f (gt A i).f (gt A i).frm) with
    | false=>rfl
    | true =>
     simp only [Bool.and_eq_true,decide_eq_true_eq] at hq
     exact absurd ⟨by omega,hq.1.2,hq.2⟩ hl
   have e3:ks same red (kA A) out (i5 A i)=out++[⟨⟨(gt A i).frm,(gt A i).frm,false,false⟩,red (gt A i).f (gt A i).frm⟩]:=by
    unfold ks
    rw [hv,hf,hnext,hlb]
    rfl
   rw [e3,jJ]
   exact ⟨by simp,rfl,rfl,rfl,rfl⟩
theorem gap_step (heq:∀ a b,eqf a b=true→a=b) (hA:Turns pl A) {out:List (U α)} {i:Nat} (hi:i+1 < A.length) (he:i % 2=0) (hh:(gt A (i+1)).has=true) (h:InvO same red pl A out i) :
 dA eqf same red (kA A) out (i5 A (i+1))=eR eqf same red A out (i+1)∧InvE pl A (eR eqf same red A out (i+1)) (i+2):=by
 have hg:=hA.odd hi og
 have hlt:=hA.lt (i+1) hi hg
 have hgp:=hA.even (by omega:i < A.length) he
 have hpp:=hA.pt i og hgp
 have ea:=hA.adj i hi
 rw [hpp] at ea
 obtain ⟨hc,hx⟩:=oi hi hh
 have hv:(gt (kA A) (i5 A (i+1))).iv=⟨(gt A i).frm,(gt A (i+1)).til,true,true⟩:=by rw [hx]; unfold toU; rw [hg,ea]
 have hf:(gt (kA A) (i5 A (i+1))).f=(gt A (i+1)).f:=by rw [hx]; rfl
 have hins:aM ⟨(gt A i).frm,(gt A (i+1)).til,true,true⟩=false:=decide_eq_false fun e=>by
  have e:(gt A i).frm=(gt A (i+1)).til:=e
  rw [ea,e] at hlt; omega
 rw [ea] at hlt
 have happ:∀ b:Bool,InvE pl A (out++[⟨⟨(gt A i).frm,(gt A (i+1)).til,b,true⟩,(gt A (i+1)).f⟩]) (i+2):=fun b=>by
  refine ⟨fun _=>?_,fun k=>absurd ⟨by omega,hh⟩ k⟩
  rw [jJ]
  exact ⟨by simp,rfl,rfl,hlt,rfl⟩
 have hngap:∀ b:Bool,((((decide (((i5 A (i+1):Nat):Int)>0)) && (aM ((gt (kA A) (i5 A (i+1) - 1)).iv))) && (decide (((gt (kA A) (i5 A (i+1) - 1)).iv).lo=(gt A i).frm))) && (!(ly out (gt A i).frm)))=b →
  jm (kA A) out (i5 A (i+1))=out++[⟨⟨(gt A i).frm,(gt A (i+1)).til,!b,true⟩,(gt A (i+1)).f⟩]:=fun b hb=>by
  unfold jm
  rw [hv,hb,hf,hx]
  cases b
  ·rw [cond_false]
   unfold toU
   rw [hg,ea]
   rfl
  ·rfl
 have hi2:(decide (((i+1:Nat):Int)≥2))=decide (0 < i):=decide_eq_decide.2 og
 by_cases m:mgd same A i
 ·obtain ⟨m1,m2,m3,m4⟩:=m
  obtain ⟨a1,a2,a3,a4,a5⟩:=h.1 ⟨m1,m2,m3,m4⟩
  have hb:tp (kA A) out (i5 A (i+1))=true:=iV.2 ⟨a1,by rw [a2,hv],fun e=>by rw [e] at a4; omega⟩
  cases hq:eqf (gt A (i - 1)).f (gt A (i+1)).f with
  | true =>
   have e1:dA eqf same red (kA A) out (i5 A (i+1))=out.set (out.length - 1) ⟨⟨(lst out).iv.lo,(gt A (i+1)).til,(lst out).iv.openLo,true⟩,(lst out).f⟩:=by
    unfold dA
    rw [hb,cond_true,hv,hins,Bool.not_false,cond_true,hf]
    rw [show (gt out (out.length - 1)).iv.openHi=false from a3,show (gt out (out.length - 1)).f=(gt A (i - 1)).f from a5,hq,Bool.not_false,Bool.and_self,cond_true]
    rw [show (gt A (i - 1)).f=(lst out).f from a5.symm]
    rfl
   have e2:eR eqf same red A out (i+1)=out.set (out.length - 1) ⟨⟨(lst out).iv.lo,(gt A (i+1)).til,(lst out).iv.openLo,true⟩,(lst out).f⟩:=by
    unfold eR
    rw [hh,Bool.not_true,cond_false,hg,cond_true,hi2,decide_eq_true m2]
    rw [show i+1 - 2=i - 1 by omega,Nat.add_sub_cancel,m3,m1,ea,m4,hq]
    rfl
   refine ⟨e1.trans e2.symm,?_⟩
   rw [e2]
   refine ⟨fun _=>?_,fun k=>absurd ⟨by omega,hh⟩ k⟩
   rw [tW a1,List.length_set]
   rw [a2] at a4
   exact ⟨a1,rfl,rfl,Nat.lt_trans a4 hlt,a5.trans (heq _ _ hq)⟩
  | false =>
   have e1:dA eqf same red (kA A) out (i5 A (i+1))=jm (kA A) out (i5 A (i+1)):=by
    unfold dA
    rw [hb,cond_true,hv,hins,Bool.not_false,cond_true,hf]
    rw [show (gt out (out.length - 1)).f=(gt A (i - 1)).f from a5,hq,Bool.and_false,cond_false]
   have e2:=hngap false (by rw [ig.2 ⟨a1,a2,a3⟩,Bool.not_true,Bool.and_false])
   have e3:eR eqf same red A out (i+1)=out++[⟨⟨(gt A i).frm,(gt A (i+1)).til,!false,true⟩,(gt A (i+1)).f⟩]:=by
    unfold eR
    rw [hh,Bool.not_true,cond_false,hg,cond_true,hi2,decide_eq_true m2]
    rw [show i+1 - 2=i - 1 by omega,Nat.add_sub_cancel,m3,m1,ea,m4,hq]
    simp
   refine ⟨(e1.trans e2).trans e3.symm,?_⟩
   rw [e3]; exact happ _
 ·have hmb:((((decide (((i+1:Nat):Int)≥2)) && (gt A (i+1 - 2)).has) && (gt A (i+1 - 1)).has) && same (gt A (i+1 - 2)).f (gt A (i+1 - 1)).f (gt A (i+1)).frm)=false:=by
   cases hq:((((decide (((i+1:Nat):Int)≥2)) && (gt A (i+1 - 2)).has) && (gt A (i+1 - 1)).has) && same (gt A (i+1 - 2)).f (gt A (i+1 - 1)).f (gt A (i+1)).frm) with
   | false=>rfl
   | true =>
    rw [hi2,show i+1 - 2=i - 1 by omega,Nat.add_sub_cancel,ea] at hq
    simp only [Bool.and_eq_true,decide_eq_true_eq] at hq
    exact absurd ⟨hq.1.2,hq.1.1.1,hq.1.1.2,hq.2⟩ m
  have hmb2:(gt A (i+1 - 1)).has=true→(((decide (((i+1:Nat):Int)≥2)) && (gt A (i+1 - 2)).has) && same (gt A (i+1 - 2)).f (gt A (i+1 - 1)).f (gt A (i+1)).frm)=false:=fun hp=>by
   rw [hp,Bool.and_true] at hmb
   exact hmb
  have e3:eR eqf same red A out (i+1)=out++[⟨⟨(gt A i).frm,(gt A (i+1)).til,!((gt A i).has && same (gt A (i+1)).f (gt A i).f (gt A i).frm),true⟩,(gt A (i+1)).f⟩]:=by
   unfold eR
   rw [hh,Bool.not_true,cond_false,hg,cond_true,hmb,Bool.false_and,cond_false]
   cases hp:(gt A (i+1 - 1)).has with
   | false =>
    rw [show (gt A i).has=false from hp,ea]
    simp
   | true =>
    rw [hmb2 hp,show (gt A i).has=true from hp,ea]
    simp
  have e1:dA eqf same red (kA A) out (i5 A (i+1))=jm (kA A) out (i5 A (i+1)):=by
   unfold dA
   rw [hv,hins,Bool.not_false,cond_true,cond_true,hf]
   cases hb:tp (kA A) out (i5 A (i+1)) with
   | false=>rfl
   | true =>
    rw [cond_true]
    obtain ⟨b1,b2,b3⟩:=iV.1 hb
    rw [hv] at b2
    have hs:(gt out (out.length - 1)).iv.openHi=true:=by
     by_cases c:(gt A i).has=false∨lft same A i
     ·have h2:=h.2.1 m c
      by_cases c2:0 < i∧(gt A (i - 1)).has=true
      ·exact (h2.1 c2).2.2.1
      ·rcases h2.2 c2 with h1 | ⟨h0,h1⟩
       ·omega
       ·have q1:=hA.lt (i - 1) og (hA.odd og og)
        have q2:=hA.adj (i - 1) og
        rw [show i - 1+1=i by omega] at q2
        have q3:pl (lst out).iv.hi=pl (gt A i).frm:=congrArg pl b2
        rw [q2] at q3
        omega
     ·have c1:(gt A i).has=true:=by cases hh:(gt A i).has with
       | true=>rfl
       | false=>exact absurd (.inl hh) c
      obtain ⟨k1,k2,k3,k4,_⟩:=h.2.2 m c1 fun h=>c (.inr h)
      exact absurd (k2.trans k3.symm) b3
    rw [hs,Bool.not_true,Bool.false_and,cond_false]
  have hcond:((((decide (((i5 A (i+1):Nat):Int)>0)) && (aM ((gt (kA A) (i5 A (i+1) - 1)).iv))) && (decide (((gt (kA A) (i5 A (i+1) - 1)).iv).lo=(gt A i).frm))) && (!(ly out (gt A i).frm)))=((gt A i).has && same (gt A (i+1)).f (gt A i).f (gt A i).frm):=by
   cases hp:(gt A i).has with
   | true =>
    obtain ⟨_,y2⟩:=oi (by omega:i < A.length) hp
    have y3:=pe (by omega:i < A.length) hp
    rw [y3,Nat.add_sub_cancel,decide_eq_true (by omega:((i5 A i+1:Nat):Int)>0),y2]
    rw [show (toU (gt A i)).iv=⟨(gt A i).frm,(gt A i).frm,false,false⟩ by unfold toU; rw [hgp,hpp]]
    rw [show aM ⟨(gt A i).frm,(gt A i).frm,false,false⟩=true from decide_eq_true rfl,decide_eq_true rfl,Bool.and_self,Bool.and_self,Bool.true_and,Bool.true_and]
    by_cases l:lft same A i
    ·rw [l.2.2]
     have h2:=h.2.1 m (.inr l)
     cases hb:ly out (gt A i).frm with
     | false=>rfl
     | true =>
      obtain ⟨b1,b2,b3⟩:=ig.1 hb
      by_cases c2:0 < i∧(gt A (i - 1)).has=true
      ·rw [(h2.1 c2).2.2.1] at b3; cases b3
      ·rcases h2.2 c2 with h1 | ⟨h0,h1⟩
       ·omega
       ·have q1:=hA.lt (i - 1) og (hA.odd og og)
        have q2:=hA.adj (i - 1) og
        rw [show i - 1+1=i by omega] at q2
        have q3:pl (lst out).iv.hi=pl (gt A i).frm:=congrArg pl b2
        rw [q2] at q3
        omega
    ·obtain ⟨k1,k2,k3,k4,_⟩:=h.2.2 m hp l
     rw [ig.2 ⟨k1,k3,k4⟩]
     cases hs:same (gt A (i+1)).f (gt A i).f (gt A i).frm with
     | false=>rfl
     | true=>exact absurd ⟨hi,hh,hs⟩ l
   | false =>
    rw [Bool.false_and]
    by_cases hz:0 < i5 A (i+1)
    ·obtain ⟨j,j1,j2,j3,j4⟩:=uF (A:=A) (i+1) og hz
     have hji:j < i:=by
      rcases Nat.lt_or_ge j i with q | q
      ·exact q
      ·obtain rfl:j=i:=by omega
       rw [hp] at j2; cases j2
     obtain ⟨_,y2⟩:=oi (by omega:j < A.length) j2
     rw [show i5 A (i+1) - 1=i5 A j by omega,y2]
     have hfalse:(aM (toU (gt A j)).iv && decide ((toU (gt A j)).iv.lo=(gt A i).frm))=false:=by
      cases hgj:(gt A j).gap with
      | true =>
       have q1:=hA.lt j og hgj
       rw [show aM (toU (gt A j)).iv=false from decide_eq_false fun e=>by
        have e:(gt A j).frm=(gt A j).til:=e
        rw [e] at q1; omega]
       rfl
      | false =>
       have hje:j % 2=0:=by
        have:=hA.gap j og
        rw [hgj] at this
        have:=of_decide_eq_false this.symm
        omega
       have q1:=hA.lt (j+1) og (hA.odd og og)
       have q2:=hA.adj j og
       have q3:=hA.mono' (by omega:j+1 < i) og
       have q4:=hA.le1 (by omega:j < A.length)
       rw [q2] at q1
       rw [decide_eq_false fun e=>?_,Bool.and_false]
       have e:(gt A j).frm=(gt A i).frm:=e
       rw [e] at q4
       omega
     rw [Bool.and_assoc (decide _),hfalse,Bool.and_false]
     rfl
    ·rw [decide_eq_false (by omega:¬ ((i5 A (i+1):Nat):Int)>0)]
     rfl
  have e2:=hngap _ hcond
  refine ⟨(e1.trans e2).trans e3.symm,?_⟩
  rw [e3]; exact happ _
theorem sL (heq:∀ a b,eqf a b=true→a=b) (hA:Turns pl A):∀ i,i≤A.length→ey (dA eqf same red (kA A)) [] (i5 A i)=ey (eR eqf same red A) [] i ∧
 (i % 2=0→InvE pl A (ey (eR eqf same red A) [] i) i)∧(i % 2=1→InvO same red pl A (ey (eR eqf same red A) [] i) (i - 1)):=by
 have no:∀ (out:List (U α)) i,(gt A i).has=false→eR eqf same red A out i=out:=fun out i h=>by unfold eR; rw [h]; rfl
 intro i
 induction i with
 | zero=>intro _; exact ⟨rfl,fun _=>⟨fun h=>absurd h.1 (Nat.lt_irrefl 0),fun _=>.inl rfl⟩,fun h=>by cases h⟩
 | succ i ih =>
  intro hi
  obtain ⟨h1,h2,h3⟩:=ih og
  show _=eR eqf same red A (ey (eR eqf same red A) [] i) i∧(_→InvE pl A (eR eqf same red A (ey (eR eqf same red A) [] i) i) (i+1))∧(_→InvO same red pl A (eR eqf same red A (ey (eR eqf same red A) [] i) i) (i+1 - 1))
  cases hh:(gt A i).has with
  | false =>
   rw [rN hi hh,no _ _ hh]
   refine ⟨h1,fun he=>?_,fun ho=>?_⟩
   ·have h4:=(h3 og).le hA og
    refine ⟨fun k=>absurd k.2 (by rw [Nat.add_sub_cancel,hh]; decide),fun _=>?_⟩
    rcases h4 with h4 | h4
    ·exact .inl h4
    ·refine .inr ⟨by omega,?_⟩
     have q1:=hA.adj (i - 1) og
     have q2:=hA.pt (i - 1) og (hA.even og og)
     rw [show i - 1+1=i by omega,q2] at q1
     rw [Nat.add_sub_cancel,q1]
     exact h4
   ·have h4:=h2 og
    rw [Nat.add_sub_cancel]
    exact ⟨fun k=>absurd k.1 (by rw [hh]; decide),fun _ _=>h4,fun _ k=>absurd k (by rw [hh]; decide)⟩
  | true =>
   rw [pe hi hh]
   show dA eqf same red (kA A) (ey (dA eqf same red (kA A)) [] (i5 A i)) (i5 A i)=_∧_
   rw [h1]
   rcases Nat.mod_two_eq_zero_or_one i with he | ho
   ·obtain ⟨k1,k2⟩:=pt_step (eqf:=eqf) (same:=same) (red:=red) hA hi he hh (h2 he)
    exact ⟨k1,fun q=>by omega,fun _=>by rw [Nat.add_sub_cancel]; exact k2⟩
   ·obtain ⟨i,rfl⟩:∃ j,i=j+1:=⟨i - 1,by omega⟩
    have h4:=h3 ho
    rw [Nat.add_sub_cancel] at h4
    obtain ⟨k1,k2⟩:=gap_step (eqf:=eqf) (same:=same) (red:=red) heq hA hi og hh h4
    exact ⟨k1,fun _=>k2,fun q=>by omega⟩
theorem loops_eq (heq:∀ a b,eqf a b=true→a=b) (hA:Turns pl A):ey (dA eqf same red (kA A)) [] (kA A).length=ey (eR eqf same red A) [] A.length:=by
 have:=(sL (same:=same) (red:=red) heq hA A.length (Nat.le_refl _)).1
 rwa [rO] at this
end
end Go.Sx
