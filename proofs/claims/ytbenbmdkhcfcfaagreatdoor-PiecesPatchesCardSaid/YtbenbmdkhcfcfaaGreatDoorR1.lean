import Derived.Test.YtbenbmdkhcfcfaaGreatDoorI1
import Derived.Test.YtbenbmdkhcfcfaaGreatDoorP1
import Derived.Test.YtbenbmdkhcfcfaaGreatDoorM3
import Derived.Test.YtbenbmdkhcfcfaaGreatDoorN1
set_option linter.unusedVariables false
set_option linter.unusedSimpArgs false
open Go.Proofs.Tryz renaming prog → zP, runUnderlying59 → uu59
namespace Go.Sx
open Go Go.RowKit Go.Proofs
set_option maxRecDepth 100000
set_option maxHeartbeats 40000000
attribute [local irreducible] Code.wp wpList Rd gW ObS Ent
attribute [local irreducible] an bB ah aO az c8
theorem sL (w : World) : (method (Tryz.prog.types.size + Made.depth) 59 (.agg #[]) "Check").run zP w = .ok (371, .agg #[]) w := kM (P := zP) (T := 59) Tryz.type59 (by kernel_rfl) uu59 w
instance zi65 : Mt zP 59 (.agg #[]) "Check" 371 := ⟨sL⟩
theorem ro (w : World) : (nilAhead (Tryz.prog.types.size + Made.depth) 59 (.agg #[]) "Check").run zP w = .ok (some false) w := jn (P := zP) (T := 59) (f := 371) Tryz.type59 (by kernel_rfl) uu59 w
instance zi66 : Nl zP 59 (.agg #[]) "Check" := ⟨ro⟩
end Go.Sx
namespace Go.Sx
def mF (x y:Iv):Bd:=if kB (aI x) < kB (aI y) then aI y else aI x
def mL (x y:Iv):Bd:=if kB (aG y) < kB (aG x) then aG y else aG x
theorem kF (i:Iv):kB (aI i)=2*tk i.lo+(bif i.openLo then 1 else 0):=by rw [pf]; rfl
theorem kL (i:Iv):kB (aG i)=2*tk i.hi+(bif !i.openHi then 1 else 0):=by rw [pl]; rfl
theorem mF_lt {x y:Iv} (h:tk x.lo < tk y.lo):mF x y=⟨y.lo,y.openLo⟩:=by
 unfold mF
 rw [if_pos (by have:=bb x.openLo; have:=bb y.openLo; rw [kF,kF]; omega),pf]
theorem mF_gt {x y:Iv} (h:tk y.lo < tk x.lo):mF x y=⟨x.lo,x.openLo⟩:=by
 unfold mF
 rw [if_neg (by have:=bb x.openLo; have:=bb y.openLo; rw [kF,kF]; omega),pf]
theorem mF_eq {x y:Iv} (h:x.lo=y.lo):mF x y=⟨x.lo,x.openLo || y.openLo⟩:=by
 unfold mF
 rw [kF,kF,h]
 unfold aI
 rw [h]
 cases x.openLo <;> cases y.openLo <;> simp
theorem mL_lt {x y:Iv} (h:tk x.hi < tk y.hi):mL x y=⟨x.hi,!x.openHi⟩:=by
 unfold mL
 rw [if_neg (by have:=bb (!x.openHi); have:=bb (!y.openHi); rw [kL,kL]; omega),pl]
theorem mL_gt {x y:Iv} (h:tk y.hi < tk x.hi):mL x y=⟨y.hi,!y.openHi⟩:=by
 unfold mL
 rw [if_pos (by have:=bb (!x.openHi); have:=bb (!y.openHi); rw [kL,kL]; omega),pl]
theorem mL_eq {x y:Iv} (h:x.hi=y.hi):mL x y=⟨x.hi,!(x.openHi || y.openHi)⟩:=by
 unfold mL
 rw [kL,kL,h]
 unfold aG
 rw [h]
 cases x.openHi <;> cases y.openHi <;> simp
theorem flag {a b:GR} (ha:Tm a) (hb:Tm b) (o p:Bool):((decide ((an a b) < 0)) || ((((an a b) == 0) && (!o)) && (!p)))=decide (kB ⟨a,o⟩ < kB ⟨b,!p⟩):=by
 rw [ha.cmp hb]
 unfold kB
 simp only
 have h1:=bb o
 have h2:=bb (!p)
 rcases Nat.lt_trichotomy (tk a) (tk b) with e | e | e
 ·rw [fO e,decide_eq_true (by omega:2*tk a+(bif o then 1 else 0) < 2*tk b+(bif !p then 1 else 0))]; rfl
 ·rw [e,dW]
  cases o <;> cases p <;> simp
 ·rw [gb e,decide_eq_false (by omega:¬ 2*tk a+(bif o then 1 else 0) < 2*tk b+(bif !p then 1 else 0))]; rfl
theorem bet (a b:GR) (o p:Bool):bD ⟨a,o⟩ ⟨b,!p⟩=⟨a,b,o,p⟩:=by
 unfold bD
 simp only [Bool.not_not]
theorem ua {x y:Iv} (hx:Tv x) (hy:Tv y):bf x y=(bD (mF x y) (mL x y),decide (kB (mF x y) < kB (mL x y))):=by
 unfold bf
 rw [hx.1.cmp hy.1,hx.2.cmp hy.2]
 rcases Nat.lt_trichotomy (tk x.lo) (tk y.lo) with e | e | e
 ·rw [fO e,mF_lt e,show decide ((-1:Int) < 0)=true from rfl,cond_true]
  rcases Nat.lt_trichotomy (tk x.hi) (tk y.hi) with g | g | g
  ·rw [fO g,show decide ((-1:Int)>0)=false from rfl,cond_false,show ((-1:Int) == 0)=false from rfl,cond_false,mL_lt g,bet,flag hy.1 hx.2]
  ·rw [g,dW,show decide ((0:Int)>0)=false from rfl,cond_false,show ((0:Int) == 0)=true from rfl,cond_true,mL_eq ((hx.2.inj hy.2).1 g),bet,flag hy.1 hx.2]
  ·rw [gb g,show decide ((1:Int)>0)=true from rfl,cond_true,mL_gt g,bet,flag hy.1 hy.2]
 ·rw [e,dW,mF_eq ((hx.1.inj hy.1).1 e),show decide ((0:Int) < 0)=false from rfl,cond_false,show ((0:Int) == 0)=true from rfl,cond_true]
  rcases Nat.lt_trichotomy (tk x.hi) (tk y.hi) with g | g | g
  ·rw [fO g,show decide ((-1:Int)>0)=false from rfl,cond_false,show ((-1:Int) == 0)=false from rfl,cond_false,mL_lt g,bet,flag hx.1 hx.2]
  ·rw [g,dW,show decide ((0:Int)>0)=false from rfl,cond_false,show ((0:Int) == 0)=true from rfl,cond_true,mL_eq ((hx.2.inj hy.2).1 g),bet,flag hx.1 hx.2]
  ·rw [gb g,show decide ((1:Int)>0)=true from rfl,cond_true,mL_gt g,bet,flag hx.1 hy.2]
 ·rw [gb e,mF_gt e,show decide ((1:Int) < 0)=false from rfl,cond_false,show ((1:Int) == 0)=false from rfl,cond_false]
  rcases Nat.lt_trichotomy (tk x.hi) (tk y.hi) with g | g | g
  ·rw [fO g,show decide ((-1:Int)>0)=false from rfl,cond_false,show ((-1:Int) == 0)=false from rfl,cond_false,mL_lt g,bet,flag hx.1 hx.2]
  ·rw [g,dW,show decide ((0:Int)>0)=false from rfl,cond_false,show ((0:Int) == 0)=true from rfl,cond_true,mL_eq ((hx.2.inj hy.2).1 g),bet,flag hx.1 hx.2]
  ·rw [gb g,show decide ((1:Int)>0)=true from rfl,cond_true,mL_gt g,bet,flag hx.1 hy.2]
theorem yo {x y:Iv} (hx:Tv x) (hy:Tv y):fx x y=decide (kB (aG x)≤kB (aG y)):=by
 unfold fx
 rw [hx.2.cmp hy.2,kL,kL]
 have h1:=bb (!x.openHi)
 have h2:=bb (!y.openHi)
 rcases Nat.lt_trichotomy (tk x.hi) (tk y.hi) with e | e | e
 ·rw [fO e,decide_eq_true (by omega:2*tk x.hi+(bif !x.openHi then 1 else 0)≤2*tk y.hi+(bif !y.openHi then 1 else 0))]; rfl
 ·rw [e,dW]
  cases x.openHi <;> cases y.openHi <;> simp
 ·rw [gb e,decide_eq_false (by omega:¬ 2*tk x.hi+(bif !x.openHi then 1 else 0)≤2*tk y.hi+(bif !y.openHi then 1 else 0))]; rfl
section
variable {γ:Type} (q:Nat→Nat→List γ) (m:Nat)
def rfA (i k:Nat):List γ:=(List.range i).flatMap (fun j=>(List.range m).flatMap (q j))++(List.range k).flatMap (q i)
variable {q m}
theorem pU {δ:Type} (g:Nat→List δ) (n:Nat):(List.range (n+1)).flatMap g=(List.range n).flatMap g++g n:=by
 rw [List.range_succ,List.flatMap_append]; simp
theorem rfA_k (i k:Nat):rfA q m i (k+1)=rfA q m i k++q i k:=by
 unfold rfA; rw [pU,List.append_assoc]
theorem tR (i:Nat):rfA q m i m=rfA q m (i+1) 0:=by
 unfold rfA; rw [pU]; simp
theorem nR {δ:Type} {g:Nat→List δ} {a:Nat}:∀ n,(∀ k,a≤k→k < a+n→g k=[])→(List.range (a+n)).flatMap g=(List.range a).flatMap g
 | 0,_=>rfl
 | n+1,h=>by
  rw [← Nat.add_assoc,pU,h (a+n) og og,List.append_nil]
  exact nR n fun k h1 h2=>h k h1 og
theorem rb {i a b:Nat} (hab:a≤b) (h:∀ k,a≤k→k < b→q i k=[]):rfA q m i b=rfA q m i a:=by
 unfold rfA
 have:=nR (g:=q i) (a:=a) (b - a) (fun k h1 h2=>h k h1 og)
 rw [show a+(b - a)=b by omega] at this
 rw [this]
theorem rfA_rows {a b:Nat} (hab:a≤b) (h:∀ i,a≤i→i < b→∀ k,k < m→q i k=[]):rfA q m b 0=rfA q m a 0:=by
 unfold rfA
 have:=nR (g:=fun j=>(List.range m).flatMap (q j)) (a:=a) (b - a) (fun i h1 h2=>by
  have:=nR (g:=q i) (a:=0) m (fun k _ hk=>h i h1 og k og)
  rw [Nat.zero_add] at this
  exact this)
 rw [show a+(b - a)=b by omega] at this
 rw [this]
 rfl
end
section
variable {α β:Type} [Inhabited α] [Inhabited β]
def rfQ (u:List (U α)) (v:List (U β)) (i k:Nat):List (Bt α β) :=
 bif decide (i < u.length) then (bif (bf (gt u i).iv (gt v k).iv).2 then [⟨(bf (gt u i).iv (gt v k).iv).1,(gt u i).f,(gt v k).f⟩] else []) else []
def rfB {R:Type} (a:List (U α)) (b:List (U β)) (out:List (Bt α β)) (i k:Nat):Nx (List (Bt α β)×Nat×Nat) R :=
 bif ((decide ((i:Int) < (a.length:Int))) && (decide ((k:Int) < (b.length:Int)))) then
  bif (bf ((gt a i).iv) ((gt b k).iv)).2 then
   bif (fx ((gt a i).iv) ((gt b k).iv)) then
    .go ((out++[(⟨(bf ((gt a i).iv) ((gt b k).iv)).1,(gt a i).f,(gt b k).f⟩:Bt α β)]),(i+1),k)
   else
    .go ((out++[(⟨(bf ((gt a i).iv) ((gt b k).iv)).1,(gt a i).f,(gt b k).f⟩:Bt α β)]),i,(k+1))
  else
   bif (fx ((gt a i).iv) ((gt b k).iv)) then
    .go (out,(i+1),k)
   else
    .go (out,i,(k+1))
 else
  .out (out,i,k)
structure Od (u:List (U α)):Prop where
 wv:∀ x∈u,Wv x.iv
 ord:u.Pairwise fun a b=>ec a.iv < (dL b.iv:Int)
theorem Od.gt {u:List (U α)} (h:Od u) {i:Nat} (hi:i < u.length):Wv (Sx.gt u i).iv:=h.wv _ (by rw [fL hi]; exact List.getElem_mem _)
theorem Od.lt {u:List (U α)} (h:Od u) {i j:Nat} (hij:i < j) (hj:j < u.length):kB (aG (Sx.gt u i).iv)≤kB (aI (Sx.gt u j).iv):=by
 have:=List.pairwise_iff_getElem.1 h.ord i j og hj hij
 rw [← fL (by omega:i < u.length),← fL hj] at this
 have h2:=mu (Sx.gt u i).iv
 rw [kO]; omega
theorem mF_ge (x y:Iv):kB (aI x)≤kB (mF x y)∧kB (aI y)≤kB (mF x y):=by
 unfold mF; split <;> omega
theorem mL_le (x y:Iv):kB (mL x y)≤kB (aG x)∧kB (mL x y)≤kB (aG y):=by
 unfold mL; split <;> omega
theorem sO {x y:Iv} (hx:Tv x) (hy:Tv y) (h:kB (aG x)≤kB (aI y)∨kB (aG y)≤kB (aI x)):(bf x y).2=false:=by
 rw [ua hx hy]
 have h1:=mF_ge x y
 have h2:=mL_le x y
 exact decide_eq_false og
theorem ra {u:List (U α)} {v:List (U β)} {i k:Nat} (h:i < u.length→(bf (gt u i).iv (gt v k).iv).2=false):rfQ u v i k=[]:=by
 unfold rfQ
 by_cases hi:i < u.length
 ·rw [h hi]; cases decide (i < u.length) <;> rfl
 ·rw [decide_eq_false hi]; rfl
theorem nh {R:Type} {u:List (U α)} {v:List (U β)} (hu:Od u) (hv:Od v):∀ (n i k:Nat) (out:List (Bt α β)),i≤u.length→k≤v.length→(u.length - i)+(v.length - k) < n→out=rfA (rfQ u v) v.length i k →
 (∀ i' k',i < i'→k' < k→rfQ u v i' k'=[])→∃ st,bt (R:=R) (fun s=>rfB u v s.1 s.2.1 s.2.2) n (out,i,k)=.inl st∧st.1=rfA (rfQ u v) v.length u.length 0
 | 0,i,k,out,_,_,hn,_,_=>by omega
 | n+1,i,k,out,hi,hk,hn,ho,hq=>by
  by_cases hi2:i < u.length
  ·by_cases hk2:k < v.length
   ·have hc:((decide ((i:Int) < (u.length:Int))) && (decide ((k:Int) < (v.length:Int))))=true:=by
     rw [decide_eq_true (by omega:(i:Int) < (u.length:Int)),decide_eq_true (by omega:(k:Int) < (v.length:Int))]; rfl
    have hqi:rfQ u v i k=bif (bf (gt u i).iv (gt v k).iv).2 then [⟨(bf (gt u i).iv (gt v k).iv).1,(gt u i).f,(gt v k).f⟩] else []:=by
     unfold rfQ; rw [decide_eq_true hi2,cond_true]
    have hb:rfB (R:=R) u v out i k=bif (fx ((gt u i).iv) ((gt v k).iv)) then .go (out++rfQ u v i k,i+1,k) else .go (out++rfQ u v i k,i,k+1):=by
     unfold rfB
     rw [hc,cond_true,hqi]
     cases (bf (gt u i).iv (gt v k).iv).2
     ·rw [cond_false,cond_false,List.append_nil]
     ·rw [cond_true,cond_true]
    have ho2:out++rfQ u v i k=rfA (rfQ u v) v.length i (k+1):=by rw [ho,rfA_k]
    have wu:=hu.gt hi2
    have wv:=hv.gt hk2
    cases he:fx ((gt u i).iv) ((gt v k).iv) with
    | true =>
     rw [he,cond_true] at hb
     rw [yo wu.1 wv.1,decide_eq_true_eq] at he
     obtain ⟨st,e1,e2⟩:=nh (R:=R) hu hv n (i+1) k (out++rfQ u v i k) og hk og (by
      rw [ho2,← rb (show k+1≤v.length from hk2) (fun k' h1 h2=>ra fun _=>sO wu.1 (hv.gt h2).1 (.inl (Nat.le_trans he (hv.lt og h2)))),tR]
      exact (rb (Nat.zero_le k) fun k' _ h2=>hq (i+1) k' og h2).symm) (fun i' k' h1 h2=>hq i' k' og h2)
     exact ⟨st,by rw [eN n (show (fun s:List (Bt α β)×Nat×Nat=>rfB (R:=R) u v s.1 s.2.1 s.2.2) (out,i,k)=_ from hb)]; exact e1,e2⟩
    | false =>
     rw [he,cond_false] at hb
     rw [yo wu.1 wv.1,decide_eq_false_iff_not] at he
     obtain ⟨st,e1,e2⟩:=nh (R:=R) hu hv n i (k+1) (out++rfQ u v i k) hi hk2 og ho2 (fun i' k' h1 h2=>by
      by_cases e:k'=k
      ·subst e
       refine ra fun h3=>sO (hu.gt h3).1 wv.1 (.inr ?_)
       have:=hu.lt h1 h3
       have:=wu.bd
       omega
      ·exact hq i' k' h1 og)
     exact ⟨st,by rw [eN n (show (fun s:List (Bt α β)×Nat×Nat=>rfB (R:=R) u v s.1 s.2.1 s.2.2) (out,i,k)=_ from hb)]; exact e1,e2⟩
   ·have hb:rfB (R:=R) u v out i k=.out (out,i,k):=by
     unfold rfB
     rw [decide_eq_false (by omega:¬ (k:Int) < (v.length:Int)),Bool.and_false]; rfl
    have hkm:k=v.length:=by omega
    refine ⟨(out,i,k),fD n hb,?_⟩
    show out=_
    rw [ho,hkm,tR]
    exact (rfA_rows og fun i' h1 h2 k' h3=>hq i' k' og og).symm
  ·have hb:rfB (R:=R) u v out i k=.out (out,i,k):=by
    unfold rfB
    rw [decide_eq_false (by omega:¬ (i:Int) < (u.length:Int)),Bool.false_and]; rfl
   have him:i=u.length:=by omega
   refine ⟨(out,i,k),fD n hb,?_⟩
   show out=_
   rw [ho,him]
   exact rb (Nat.zero_le k) fun k' _ _=>ra fun h=>absurd h (Nat.lt_irrefl _)
end
end Go.Sx
namespace Go.Sx
def RB (B:Nat) (r:Rat):Prop:=r.num.natAbs≤B∧r.den≤B
theorem su (r:Rat):r*(r.den:Rat)=(r.num:Rat):=by
 have hd:(r.den:Rat)≠0:=fun e=>r.den_nz (by exact_mod_cast e)
 have h:r=(r.num:Rat) / (r.den:Rat):=by
  have:=Rat.num_divInt_den r
  rw [Rat.divInt_eq_div] at this
  exact this.symm
 have h2:=Rat.div_mul_cancel (a:=(r.num:Rat)) hd
 rw [← h] at h2; exact h2
theorem rat_le {r:Rat} {p:Int} {q:Nat} (hq:0 < q) (h:r*(q:Rat)=(p:Rat)):r.num.natAbs≤p.natAbs∧r.den≤q:=by
 have hd:(r.den:Rat)≠0:=fun e=>r.den_nz (by exact_mod_cast e)
 have hr:r*(r.den:Rat)=(r.num:Rat):=su r
 have e:(r.num:Rat)*(q:Rat)=(p:Rat)*(r.den:Rat):=by rw [← hr,← h]; grind
 have e2:r.num*(q:Int)=p*(r.den:Int):=by exact_mod_cast e
 have e3:r.num.natAbs*q=p.natAbs*r.den:=by
  have:=congrArg Int.natAbs e2
  rwa [Int.natAbs_mul,Int.natAbs_mul,Int.natAbs_natCast,Int.natAbs_natCast] at this
 have hdv:r.den ∣ q:=(r.reduced.symm).dvd_of_dvd_mul_left (by rw [e3]; exact Nat.dvd_mul_left _ _)
 refine ⟨?_,Nat.le_of_dvd hq hdv⟩
 obtain ⟨t,ht⟩:=hdv
 have ht0:0 < t:=by rcases Nat.eq_zero_or_pos t with e | e; · rw [e] at ht; omega
                    ·exact e
 rw [ht,← Nat.mul_assoc,Nat.mul_right_comm] at e3
 have e4:=Nat.eq_of_mul_eq_mul_right (Nat.pos_of_ne_zero r.den_nz) e3
 rw [← e4]
 exact Nat.le_mul_of_pos_right _ ht0
theorem RB.mono {B C:Nat} {r:Rat} (h:RB B r) (hc:B≤C):RB C r:=⟨Nat.le_trans h.1 hc,Nat.le_trans h.2 hc⟩
theorem RB.add {B C:Nat} {r s:Rat} (hr:RB B r) (hs:RB C s):RB (2*(B*C)) (r+s):=by
 have h1:r*(r.den:Rat)=(r.num:Rat):=su r
 have h2:s*(s.den:Rat)=(s.num:Rat):=su s
 have:=rat_le (r:=r+s) (p:=r.num*s.den+s.num*r.den) (q:=r.den*s.den) (Nat.mul_pos (Nat.pos_of_ne_zero r.den_nz) (Nat.pos_of_ne_zero s.den_nz)) (by
  push_cast
  rw [← h1,← h2]; grind)
 have a1:(r.num*(s.den:Int)).natAbs≤B*C:=by rw [Int.natAbs_mul,Int.natAbs_natCast]; exact Nat.mul_le_mul hr.1 hs.2
 have a2:(s.num*(r.den:Int)).natAbs≤B*C:=by rw [Int.natAbs_mul,Int.natAbs_natCast,Nat.mul_comm]; exact Nat.mul_le_mul hr.2 hs.1
 have a3:=Int.natAbs_add_le (r.num*(s.den:Int)) (s.num*(r.den:Int))
 have a4:r.den*s.den≤B*C:=Nat.mul_le_mul hr.2 hs.2
 exact ⟨by omega,by omega⟩
theorem RB.mul {B C:Nat} {r s:Rat} (hr:RB B r) (hs:RB C s):RB (B*C) (r*s):=by
 have h1:r*(r.den:Rat)=(r.num:Rat):=su r
 have h2:s*(s.den:Rat)=(s.num:Rat):=su s
 have:=rat_le (r:=r*s) (p:=r.num*s.num) (q:=r.den*s.den) (Nat.mul_pos (Nat.pos_of_ne_zero r.den_nz) (Nat.pos_of_ne_zero s.den_nz)) (by
  push_cast
  rw [← h1,← h2]; grind)
 rw [Int.natAbs_mul] at this
 exact ⟨Nat.le_trans this.1 (Nat.mul_le_mul hr.1 hs.1),Nat.le_trans this.2 (Nat.mul_le_mul hr.2 hs.2)⟩
theorem RB.neg {B:Nat} {r:Rat} (hr:RB B r):RB B (-r):=⟨by rw [Rat.neg_num,Int.natAbs_neg]; exact hr.1,by rw [Rat.neg_den]; exact hr.2⟩
theorem RB.sub {B C:Nat} {r s:Rat} (hr:RB B r) (hs:RB C s):RB (2*(B*C)) (r - s):=by
 rw [Rat.sub_eq_add_neg]; exact hr.add hs.neg
theorem qZ {x:GQ} {n:Nat} (h:QOk x) (hb:RB (256 ^ n - 1) (gM x)) (hn:n*2 ^ 30≤70368744177664):SzQ 30 x:=by
 rw [oa h] at hb
 obtain ⟨h1,h2⟩:=hb
 have p:0 < 256 ^ n:=Nat.pow_pos DC
 have sz:∀ m,m≤256 ^ n - 1→SzB 30 m:=fun m hm=>by
  have:=(d4 n m).2 og
  exact Nat.le_trans (Nat.mul_le_mul_right _ this) hn
 refine ⟨sz _ (by rw [← kv]; exact h1),sz _ ?_⟩
 have h2':o7 x≤256 ^ n - 1:=h2
 unfold o7 at h2'
 rcases h.2.1 with e | ⟨_,e⟩
 ·rw [e]; exact Nat.zero_le _
 ·split at h2'
  ·rename_i e2; rw [e2] at e; exact absurd e DC
  ·exact h2'
end Go.Sx
