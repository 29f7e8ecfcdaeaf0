/- A part of the proof of movingnumberChecks. -/
import Derived.Test.YtpfdaoajcnophaaGreatDoorB8
set_option linter.unusedVariables false
set_option linter.unusedSimpArgs false
namespace Go.Sx
section
variable {α:Type}
theorem gZ:∀ (u:List (U α)) (a:At α),(kn u a).frm=a.frm∧(kn u a).gap=a.gap∧(kn u a).til=a.til
 | [],_=>⟨rfl,rfl,rfl⟩
 | x::u,a=>by
  obtain ⟨h1,h2,h3⟩:=gZ u (kS x a)
  have e:(kS x a).frm=a.frm∧(kS x a).gap=a.gap∧(kS x a).til=a.til:=by
   unfold kS
   cases aX x.iv a.frm a.til a.gap <;> exact ⟨rfl,rfl,rfl⟩
  exact ⟨h1.trans e.1,h2.trans e.2.1,h3.trans e.2.2⟩
theorem toU_pl [K:Key] (a:At α):io (toU a).iv=plA a:=by unfold io plA toU; cases a.gap <;> rfl
theorem y5 [K:Key] (u:List (U α)) (a:At α):plA (kn u a)=plA a:=by
 unfold plA
 rw [(gZ u a).1,(gZ u a).2.1]
theorem t8 [K:Key] {z:α} {u:List (U α)} {E:List GR} (hE:Ts E):(((je z u E).filter (·.has)).map toU).Pairwise fun a b=>io a.iv < io b.iv:=by
 rw [List.pairwise_map]
 refine List.Pairwise.imp (fun {a b} h=>by rw [toU_pl,toU_pl]; exact h) (List.Pairwise.filter _ (R:=fun a b=>plA a < plA b) ?_)
 unfold je
 rw [List.pairwise_map]
 exact (qq (z:=z) hE.2).1.imp fun {a b} h=>by rw [y5,y5]; exact h
theorem atU_pl [K:Key] {v w:U α} (hv:Wv v.iv) (hw:w∈atU v):io v.iv≤io w.iv∧(io w.iv:Int)≤kj v.iv:=by
 have hle:=hv.le
 have fb:=fst_b v.iv
 have lb:=yM v.iv
 rw [rP,j0 hv.1] at hw
 rcases hw with ⟨ho,rfl⟩ | ⟨hi,rfl⟩ | ⟨hi,ho,rfl⟩
 · have e:io (ptU v.iv.lo v.f).iv=io v.iv:=by unfold io ptU; rw [ho]
   rw [e]; exact ⟨Nat.le_refl _,hle⟩
 · have hne:=of_decide_eq_false hi
   have h1:=hv.2.1
   have e:io (xx v.iv.lo v.iv.hi v.f).iv=2*tk v.iv.lo+1:=by unfold io xx; rfl
   rw [e]
   constructor
   · omega
   · omega
 · have e:io (ptU v.iv.hi v.f).iv=2*tk v.iv.hi:=by unfold io ptU; rfl
   have e2:kj v.iv=2*tk v.iv.hi:=by unfold kj; rw [ho]; simp
   rw [e,e2]
   constructor
   · omega
   · omega
theorem xr [K:Key] {v:U α} (hv:Wv v.iv):(atU v).Pairwise fun a b=>io a.iv < io b.iv:=by
 have h1:=hv.2.1
 unfold atU
 rw [j0 hv.1]
 by_cases e:tk v.iv.lo=tk v.iv.hi
 · rw [decide_eq_true e]
   cases v.iv.openLo <;> simp
 · rw [decide_eq_false e]
   cases v.iv.openLo <;> cases v.iv.openHi <;> simp [io,ptU,xx] <;> omega
theorem atoms_eq [K:Key] {z:α} {u s:List (U α)} (hW:∀ x∈u,Wv x.iv) (hD:u.Pairwise fun a b=>Dj a.iv b.iv) (hp:s.Perm u) (hs:s.Pairwise fun a b=>kU a.iv≤kU b.iv) :
 s.flatMap atU=((je z u (o7 (u.map (·.iv)))).filter (·.has)).map toU:=by
 obtain ⟨hE,hm⟩:=rZ (l:=u.map (·.iv)) (fun i hi=>by obtain ⟨x,hx,rfl⟩:=List.mem_map.1 hi; exact (hW x hx).1)
 refine pD (k:=fun w=>io w.iv) ?_ (t8 hE) fun w=>?_
 · rw [List.pairwise_flatMap]
   refine ⟨fun v hv=>xr (hW v (hp.mem_iff.1 hv)),?_⟩
   have hDs:s.Pairwise fun a b=>Dj a.iv b.iv:=(hp.pairwise_iff fun {a b} h=>Dj.symm h).2 hD
   have hboth:=hs.and hDs
   refine hboth.imp_of_mem fun {a b} ha hb h x hx y hy=>?_
   have ha':=hW a (hp.mem_iff.1 ha)
   have hb':=hW b (hp.mem_iff.1 hb)
   obtain ⟨_,x2⟩:=atU_pl ha' hx
   obtain ⟨y1,_⟩:=atU_pl hb' hy
   have l1:=ha'.le
   have l2:=hb'.le
   have t1:=wx ha'.1.2
   have t2:=wx hb'.1.2
   obtain ⟨hk,hd⟩:=h
   have ek:∀ i:Iv,kU i=io i*100000+tk i.hi:=fun i=>by unfold kU io; rw [Nat.mul_comm 2]
   rw [ek,ek] at hk
   unfold Dj at hd
   omega
 · rw [yH hW hD hE hm,List.mem_flatMap]
   constructor
   · rintro ⟨v,hv,h⟩; exact ⟨v,hp.mem_iff.1 hv,h⟩
   · rintro ⟨v,hv,h⟩; exact ⟨v,hp.mem_iff.2 hv,h⟩
end
end Go.Sx
namespace Go.Sx
theorem rn {R:Type} {B:Nat→Nx Nat R} {n:Nat} {bad:Nat→Bool} {r:R} (h:∀ i,i < n→B i=bif bad i then .ret r else .go (i+1)) (ho:B n=.out n) :
 ∀ (k a:Nat),a≤n→n - a < k→(∀ i,a≤i→i < n→bad i=false)→bZ B k a=.inl n
 | k+1,a,ha,hk,hb=>by
  by_cases e:a=n
  · subst e; exact jZ k ho
  · have h1:=h a (by omega)
    rw [hb a (Nat.le_refl _) (by omega),cond_false] at h1
    rw [iI k h1]
    exact rn h ho k (a+1) (by omega) (by omega) fun i h1 h2=>hb i (by omega) h2
theorem u7 {R:Type} {B:Nat→Nx Nat R} {n:Nat} {bad:Nat→Bool} {r:R} (h:∀ i,i < n→B i=bif bad i then .ret r else .go (i+1)) :
 ∀ (k a:Nat),n - a < k→(∃ i,a≤i∧i < n∧bad i=true)→bZ B k a=.inr r
 | k+1,a,hk,⟨i,h1,h2,h3⟩=>by
  have e:=h a (by omega)
  cases hb:bad a with
  | true=>rw [hb,cond_true] at e; exact yP k e
  | false =>
   rw [hb,cond_false] at e
   rw [iI k e]
   refine u7 h k (a+1) (by omega) ⟨i,?_,h2,h3⟩
   by_cases e2:i=a
   · subst e2; rw [hb] at h3; cases h3
   · omega
end Go.Sx
namespace Go.Sx
section
variable {α:Type}
theorem kU_eq [K:Key] (i:Iv):kU i=io i*100000+tk i.hi:=by unfold kU io; rw [Nat.mul_comm 2]
theorem sG [K:Key] {u s:List (U α)} (hW:∀ x∈u,Wv x.iv) (hD:u.Pairwise fun a b=>Dj a.iv b.iv) (hp:s.Perm u) (hs:s.Pairwise fun a b=>kU a.iv≤kU b.iv):s.Pairwise fun a b=>kj a.iv < (io b.iv:Int):=by
 have hDs:s.Pairwise fun a b=>Dj a.iv b.iv:=(hp.pairwise_iff fun {a b} h=>Dj.symm h).2 hD
 refine (hs.and hDs).imp_of_mem fun {a b} ha hb h=>?_
 have ha':=hW a (hp.mem_iff.1 ha)
 have hb':=hW b (hp.mem_iff.1 hb)
 have l1:=ha'.le
 have l2:=hb'.le
 have t1:=wx ha'.1.2
 have t2:=wx hb'.1.2
 obtain ⟨hk,hd⟩:=h
 rw [kU_eq,kU_eq] at hk
 unfold Dj at hd
 omega
theorem gU {β:Type} [Inhabited β] {l:List β} {i:Nat} (h:i < l.length):gt l i=l[i]:=by
 simp [gt,List.getD,List.getElem?_eq_getElem h]
theorem chain_pw [K:Key] [Inhabited (U α)] {s:List (U α)} (hW:∀ x∈s,Wv x.iv) (h:∀ i,0 < i→i < s.length→cA (gt s (i - 1)).iv (gt s i).iv=true):s.Pairwise fun a b=>kj a.iv < (io b.iv:Int):=by
 rw [List.pairwise_iff_getElem]
 have key:∀ (d i:Nat) (hj:i+d+1 < s.length),kj (s[i]'(by omega)).iv < (io s[i+d+1].iv:Int):=by
  intro d
  induction d with
  | zero =>
   intro i hj
   have h1:=h (i+1) (by omega) hj
   rw [gU hj,gU (by omega:i+1 - 1 < s.length),nM (hW _ (List.getElem_mem _)).1 (hW _ (List.getElem_mem _)).1,decide_eq_true_eq] at h1
   exact h1
  | succ d ih =>
   intro i hj
   have h0:=ih i (by omega)
   have hj':i+d+1+1 < s.length:=by omega
   have h1:=h (i+d+1+1) (by omega) hj'
   rw [gU hj',gU (by omega:i+d+1+1 - 1 < s.length),nM (hW _ (List.getElem_mem _)).1 (hW _ (List.getElem_mem _)).1,decide_eq_true_eq] at h1
   have h2:=(hW (s[i+d+1]'(by omega)) (List.getElem_mem _)).le
   have h3:kj (s[i+d+1]'(by omega)).iv < (io s[i+d+1+1].iv:Int):=h1
   have h4:(io (s[i+d+1]'(by omega)).iv:Int) < io s[i+d+1+1].iv:=by omega
   exact Int.lt_trans h0 h4
 intro i j hi hj hij
 have:=key (j - i - 1) i (by omega)
 simpa only [show i+(j - i - 1)+1=j by omega] using this
theorem so [K:Key] [Inhabited (U α)] {u s:List (U α)} (hW:∀ x∈u,Wv x.iv) (hp:s.Perm u) (hs:s.Pairwise fun a b=>kU a.iv≤kU b.iv) :
 (∀ i,0 < i→i < s.length→cA (gt s (i - 1)).iv (gt s i).iv=true)↔u.Pairwise fun a b=>Dj a.iv b.iv:=by
 constructor
 · intro h
   have:=chain_pw (fun x hx=>hW x (hp.mem_iff.1 hx)) h
   exact (hp.pairwise_iff fun {a b} h=>Dj.symm h).1 (this.imp fun h=>.inl h)
 · intro h i h0 h1
   have hd:=sG hW h hp hs
   rw [List.pairwise_iff_getElem] at hd
   have:=hd (i - 1) i (by omega) h1 (by omega)
   rw [gU h1,gU (by omega:i - 1 < s.length),nM (hW _ (hp.mem_iff.1 (List.getElem_mem _))).1 (hW _ (hp.mem_iff.1 (List.getElem_mem _))).1,decide_eq_true_eq]
   exact this
end
end Go.Sx
namespace Go.Sx
theorem aam [K:Key] {α:Type} {z:α} {E:List GR} (hE:Ts E) {a:At α} (ha:a∈gV z E):Tm a.frm∧Tm a.til∧(a.gap=false→a.til=a.frm)∧(a.gap=true→tk a.frm < tk a.til):=by
 rcases lc.1 ha with ⟨t,ht,rfl⟩ | ⟨t,t',hn,rfl⟩
 · exact ⟨hE.1 t ht,hE.1 t ht,fun _=>rfl,fun h=>(by cases h)⟩
 · obtain ⟨h1,h2,h3,_⟩:=(rM hE).1 hn
   exact ⟨hE.1 t h1,hE.1 t' h2,fun h=>(by cases h),fun _=>h3⟩
end Go.Sx
namespace Go.Sx
section
variable {α:Type} [Inhabited α] (eqf:α→α→Bool) (same:α→α→GR→Bool) (red:α→GR→α)
def wd (L out:List (U α)) (x:Nat):Bool:=(decide (((out.length:Nat):Int)>0) && decide ((gt out (out.length - 1)).iv.hi=(gt L x).iv.lo)) && !(aN (gt out (out.length - 1)).iv)
def o6 (out:List (U α)) (t:GR):Bool:=(decide (((out.length:Nat):Int)>0) && decide ((gt out (out.length - 1)).iv.hi=t)) && !((gt out (out.length - 1)).iv.openHi)
def ns (L out:List (U α)) (x:Nat):List (U α) :=
 bif ((((decide (((x:Nat):Int)>0)) && (aN ((gt L (x - 1)).iv))) && (decide (((gt L (x - 1)).iv).lo=((gt L x).iv).lo))) && (!(o6 out (((gt L x).iv).lo)))) then
  out++[(⟨(⟨((gt L x).iv).lo,((gt L x).iv).hi,false,((gt L x).iv).openHi⟩:Iv),(gt L x).f⟩:U α)]
 else out++[gt L x]
def nr (L out:List (U α)) (x:Nat):List (U α) :=
 bif (((decide (((x+1:Nat):Int) < ((L.length:Nat):Int))) && (decide (((gt L (x+1)).iv).lo=((gt L x).iv).lo))) && (same ((gt L (x+1)).f) ((gt L x).f) (((gt L x).iv).lo))) then out
 else out++[(⟨(gt L x).iv,(red ((gt L x).f) (((gt L x).iv).lo))⟩:U α)]
def gy (L out:List (U α)) (x:Nat):List (U α) :=
 bif wd L out x then
  bif (!(aN ((gt L x).iv))) then
   bif ((!((gt out (out.length - 1)).iv).openHi) && (eqf ((gt out (out.length - 1)).f) ((gt L x).f))) then
    out.set (out.length - 1) (⟨(⟨((gt out (out.length - 1)).iv).lo,((gt L x).iv).hi,((gt out (out.length - 1)).iv).openLo,true⟩:Iv),(gt out (out.length - 1)).f⟩:U α)
   else ns L out x
  else
   bif (same ((gt out (out.length - 1)).f) ((gt L x).f) (((gt L x).iv).lo)) then
    out.set (out.length - 1) (⟨(⟨((gt out (out.length - 1)).iv).lo,((gt out (out.length - 1)).iv).hi,((gt out (out.length - 1)).iv).openLo,false⟩:Iv),(gt out (out.length - 1)).f⟩:U α)
   else nr same red L out x
 else
  bif (!(aN ((gt L x).iv))) then ns L out x else nr same red L out x
def fA (l:List (At α)) (out:List (U α)) (i:Nat):List (U α) :=
 bif (!(gt l i).has) then out
 else bif (gt l i).gap then
  bif (((((decide (((i:Nat):Int)≥2)) && (gt l (i - 2)).has) && (gt l (i - 1)).has) && (same ((gt l (i - 2)).f) ((gt l (i - 1)).f) ((gt l i).frm))) && (eqf ((gt l (i - 2)).f) ((gt l i).f))) then
   out.set (out.length - 1) (⟨(⟨((gt out (out.length - 1)).iv).lo,(gt l i).til,((gt out (out.length - 1)).iv).openLo,true⟩:Iv),(gt out (out.length - 1)).f⟩:U α)
  else
   out++[(⟨(⟨(gt l i).frm,(gt l i).til,(!(((gt l (i - 1)).has && (same ((gt l i).f) ((gt l (i - 1)).f) ((gt l i).frm))) && (!(((decide (((i:Nat):Int)≥2)) && (gt l (i - 2)).has) && (same ((gt l (i - 2)).f) ((gt l (i - 1)).f) ((gt l i).frm)))))),true⟩:Iv),(gt l i).f⟩:U α)]
 else
  bif (((decide (((i:Nat):Int)>0)) && (gt l (i - 1)).has) && (same ((gt l (i - 1)).f) ((gt l i).f) ((gt l i).frm))) then
   out.set (out.length - 1) (⟨(⟨((gt out (out.length - 1)).iv).lo,((gt out (out.length - 1)).iv).hi,((gt out (out.length - 1)).iv).openLo,false⟩:Iv),(gt out (out.length - 1)).f⟩:U α)
  else
   bif (((decide (((i+1:Nat):Int) < ((l.length:Nat):Int))) && (gt l (i+1)).has) && (same ((gt l (i+1)).f) ((gt l i).f) ((gt l i).frm))) then out
   else out++[(⟨(⟨(gt l i).frm,(gt l i).til,false,false⟩:Iv),(red ((gt l i).f) ((gt l i).frm))⟩:U α)]
end
theorem uJ {S R:Type} {b:Bool} {X Y:Nx (S×Nat) R} {p q:S} {k:Nat} (h1:X=.go (p,k)) (h2:Y=.go (q,k)):(bif b then X else Y)=.go (bif b then p else q,k):=by cases b <;> assumption
end Go.Sx
namespace Go.Sx
def ig {β:Type} (st:β→Nat→β) (o:β):Nat→β
 | 0=>o
 | n+1=>st (ig st o n) n
theorem qa {β R:Type} {st:β→Nat→β} {o:β} {n:Nat} {B:β×Nat→Nx (β×Nat) R} (hgo:∀ o i,i < n→B (o,i)=.go (st o i,i+1)) (hout:∀ o,B (o,n)=.out (o,n)) :
 ∀ (k i:Nat),i≤n→n - i < k→bZ B k (ig st o i,i)=.inl (ig st o n,n)
 | k+1,i,hi,hk=>by
  by_cases e:i=n
  · subst e; exact jZ k (hout _)
  · rw [iI k (hgo _ i (by omega))]
    exact qa hgo hout k (i+1) (by omega) (by omega)
end Go.Sx
namespace Go.Sx
section
variable {α:Type} [Inhabited α]
def j7 (A:List (At α)):List (U α):=(A.filter (·.has)).map toU
def iP (A:List (At α)) (i:Nat):Nat:=((A.take i).filter (·.has)).length
omit [Inhabited α] in
theorem sd (A:List (At α)):iP A A.length=(j7 A).length:=by unfold iP j7; rw [List.take_length,List.length_map]
theorem xM {A:List (At α)} {i:Nat} (h:i < A.length):A.take (i+1)=A.take i++[gt A i]:=by
 rw [gU h,List.take_append_getElem]
theorem pj {A:List (At α)} {i:Nat} (h:i < A.length) (hh:(gt A i).has=true):iP A (i+1)=iP A i+1:=by
 unfold iP; rw [xM h,List.filter_append,List.filter_cons,if_pos hh]; simp
theorem sc {A:List (At α)} {i:Nat} (h:i < A.length) (hh:(gt A i).has=false):iP A (i+1)=iP A i:=by
 unfold iP; rw [xM h,List.filter_append,List.filter_cons,if_neg (by rw [hh]; decide)]; simp
omit [Inhabited α] in
theorem wT {A:List (At α)} (i:Nat):j7 A=((A.take i).filter (·.has)).map toU++((A.drop i).filter (·.has)).map toU:=by
 unfold j7; rw [← List.map_append,← List.filter_append,List.take_append_drop]
theorem od {A:List (At α)} {i:Nat} (h:i < A.length) (hh:(gt A i).has=true):iP A i < (j7 A).length∧gt (j7 A) (iP A i)=toU (gt A i):=by
 have e:A.drop i=gt A i::A.drop (i+1):=by rw [gU h]; exact List.drop_eq_getElem_cons h
 have e2:=wT (A:=A) i
 rw [e,List.filter_cons,if_pos hh,List.map_cons] at e2
 have hl:iP A i=(((A.take i).filter (·.has)).map toU).length:=by rw [List.length_map]; rfl
 rw [e2,hl]
 refine ⟨by simp,oe rfl⟩
end
end Go.Sx
namespace Go.Sx
section
variable {α:Type} [Inhabited (At α)]
omit [Inhabited (At α)] in
theorem aan {z:α} {t:GR} {r:List GR}:∃ q,gV z (t::r)=ptA z t::q:=by
 cases r with
 | nil=>exact ⟨[],rfl⟩
 | cons t' r=>exact ⟨_,rfl⟩
theorem sk {z:α}:∀ {ts:List GR} (i:Nat),i < (gV z ts).length→(gt (gV z ts) i).gap=decide (i % 2=1)∧(i+1 < (gV z ts).length→(gt (gV z ts) (i+1)).frm=(gt (gV z ts) i).til)
 | [],i,h=>absurd h (Nat.not_lt_zero _)
 | [t],0,_=>⟨rfl,fun h=>absurd h (by simp [gV])⟩
 | [t],i+1,h=>absurd h (by simp [gV])
 | t::t'::r,0,_=>⟨rfl,fun _=>rfl⟩
 | t::t'::r,1,_=>by
  obtain ⟨q,hq⟩:=aan (z:=z) (t:=t') (r:=r)
  refine ⟨rfl,fun _=>?_⟩
  show (gt (gV z (t'::r)) 0).frm=t'
  rw [hq]; rfl
 | t::t'::r,i+2,h=>by
  have ih:=sk (z:=z) (ts:=t'::r) i (by simpa [gV] using h)
  refine ⟨?_,fun h2=>ih.2 (by simp [gV] at h2; omega)⟩
  show (gt (gV z (t'::r)) i).gap=_
  rw [ih.1,Nat.add_mod_right]
end
end Go.Sx
namespace Go.Sx
structure Turns {α:Type} [Inhabited α] (pl:GR→Nat) (A:List (At α)):Prop where
 gap:∀ i,i < A.length→(gt A i).gap=decide (i % 2=1)
 adj:∀ i,i+1 < A.length→(gt A (i+1)).frm=(gt A i).til
 pt:∀ i,i < A.length→(gt A i).gap=false→(gt A i).til=(gt A i).frm
 lt:∀ i,i < A.length→(gt A i).gap=true→pl (gt A i).frm < pl (gt A i).til
section
variable {α:Type} [Inhabited α] {pl:GR→Nat} {A:List (At α)}
theorem Turns.odd (h:Turns pl A) {i:Nat} (hi:i < A.length) (ho:i % 2=1):(gt A i).gap=true:=by rw [h.gap i hi]; exact decide_eq_true ho
theorem Turns.even (h:Turns pl A) {i:Nat} (hi:i < A.length) (ho:i % 2=0):(gt A i).gap=false:=by rw [h.gap i hi]; exact decide_eq_false (by omega)
theorem Turns.le1 (h:Turns pl A) {i:Nat} (hi:i < A.length):pl (gt A i).frm≤pl (gt A i).til:=by
 cases hg:(gt A i).gap with
 | false=>rw [h.pt i hi hg]; exact Nat.le_refl _
 | true=>exact Nat.le_of_lt (h.lt i hi hg)
theorem Turns.mono (h:Turns pl A) {i:Nat}:∀ (d:Nat),i+d+1 < A.length→pl (gt A i).til≤pl (gt A (i+d+1)).frm
 | 0,hd=>by rw [h.adj i hd]; exact Nat.le_refl _
 | d+1,hd=>by
  have h1:=Turns.mono h (i:=i) d (by omega)
  have h2:=h.le1 (by omega:i+d+1 < A.length)
  have h3:=h.adj (i+d+1) hd
  rw [show i+(d+1)+1=i+d+1+1 by omega,h3]
  omega
theorem Turns.mono' (h:Turns pl A) {i j:Nat} (hij:i < j) (hj:j < A.length):pl (gt A i).til≤pl (gt A j).frm:=by
 have:=h.mono (i:=i) (j - i - 1) (by omega)
 rwa [show i+(j - i - 1)+1=j by omega] at this
theorem vu:∀ (d i:Nat),A.length - i≤d→i≤A.length→iP A i < (j7 A).length→∃ j,i≤j∧j < A.length∧(gt A j).has=true∧iP A j=iP A i∧∀ k,i≤k→k < j→(gt A k).has=false
 | d,i,hd,hi,hc=>by
  by_cases e:i=A.length
  · subst e; rw [sd] at hc; omega
  · cases hh:(gt A i).has with
    | true=>exact ⟨i,Nat.le_refl _,by omega,hh,rfl,fun k h1 h2=>by omega⟩
    | false =>
     have h1:=sc (by omega:i < A.length) hh
     match d with
     | 0=>omega
     | d+1 =>
      obtain ⟨j,a1,a2,a3,a4,a5⟩:=vu d (i+1) (by omega) (by omega) (by rw [h1]; exact hc)
      refine ⟨j,by omega,a2,a3,by rw [a4,h1],fun k k1 k2=>?_⟩
      by_cases e:k=i
      · subst e; exact hh
      · exact a5 k (by omega) k2
theorem vm:∀ (i:Nat),i≤A.length→0 < iP A i→∃ j,j < i∧(gt A j).has=true∧iP A j+1=iP A i∧∀ k,j < k→k < i→(gt A k).has=false
 | 0,_,hc=>by simp [iP] at hc
 | i+1,hi,hc=>by
  cases hh:(gt A i).has with
  | true=>exact ⟨i,Nat.lt_succ_self _,hh,(pj (by omega) hh).symm,fun k h1 h2=>by omega⟩
  | false =>
   have h1:=sc (by omega:i < A.length) hh
   obtain ⟨j,a1,a2,a3,a4⟩:=vm i (by omega) (by rw [← h1]; exact hc)
   refine ⟨j,by omega,a2,by rw [a3,h1],fun k k1 k2=>?_⟩
   by_cases e:k=i
   · subst e; exact hh
   · exact a4 k k1 (by omega)
variable (eqf:α→α→Bool) (same:α→α→GR→Bool) (red:α→GR→α)
def lst (out:List (U α)):U α:=gt out (out.length - 1)
theorem lZ (out:List (U α)) (x:U α):lst (out++[x])=x:=by
 unfold lst
 rw [List.length_append,List.length_singleton,Nat.add_sub_cancel,rT]
theorem yL {out:List (U α)} (h:0 < out.length) (x:U α):lst (out.set (out.length - 1) x)=x:=by
 unfold lst
 rw [List.length_set]
 exact tD (by omega)
theorem ke {L out:List (U α)} {x:Nat}:wd L out x=true↔0 < out.length∧(lst out).iv.hi=(gt L x).iv.lo∧(lst out).iv.lo≠(lst out).iv.hi:=by
 unfold wd lst aN
 simp only [Bool.and_eq_true,decide_eq_true_eq,Bool.not_eq_true',decide_eq_false_iff_not,ne_eq]
 constructor
 · rintro ⟨⟨h1,h2⟩,h3⟩; exact ⟨by omega,h2,h3⟩
 · rintro ⟨h1,h2,h3⟩; exact ⟨⟨by omega,h2⟩,h3⟩
theorem ma {out:List (U α)} {t:GR}:o6 out t=true↔0 < out.length∧(lst out).iv.hi=t∧(lst out).iv.openHi=false:=by
 unfold o6 lst
 simp only [Bool.and_eq_true,decide_eq_true_eq,Bool.not_eq_true']
 constructor
 · rintro ⟨⟨h1,h2⟩,h3⟩; exact ⟨by omega,h2,h3⟩
 · rintro ⟨h1,h2,h3⟩; exact ⟨⟨by omega,h2⟩,h3⟩
def InvE (pl:GR→Nat) (A:List (At α)) (out:List (U α)) (i:Nat):Prop :=
 ((0 < i∧(gt A (i - 1)).has=true)→0 < out.length∧(lst out).iv.hi=(gt A (i - 1)).til∧(lst out).iv.openHi=true∧pl (lst out).iv.lo < pl (lst out).iv.hi∧(lst out).f=(gt A (i - 1)).f) ∧
 (¬ (0 < i∧(gt A (i - 1)).has=true)→out.length=0∨(0 < i∧pl (lst out).iv.hi≤pl (gt A (i - 1)).frm))
def mgd (A:List (At α)) (i:Nat):Prop:=(gt A i).has=true∧0 < i∧(gt A (i - 1)).has=true∧same (gt A (i - 1)).f (gt A i).f (gt A i).frm=true
def lft (A:List (At α)) (i:Nat):Prop:=i+1 < A.length∧(gt A (i+1)).has=true∧same (gt A (i+1)).f (gt A i).f (gt A i).frm=true
def InvO (pl:GR→Nat) (A:List (At α)) (out:List (U α)) (i:Nat):Prop :=
 (mgd same A i→0 < out.length∧(lst out).iv.hi=(gt A i).frm∧(lst out).iv.openHi=false∧pl (lst out).iv.lo < pl (lst out).iv.hi∧(lst out).f=(gt A (i - 1)).f) ∧
 (¬ mgd same A i→((gt A i).has=false∨lft same A i)→InvE pl A out i) ∧
 (¬ mgd same A i→(gt A i).has=true→¬ lft same A i→0 < out.length∧(lst out).iv.lo=(gt A i).frm∧(lst out).iv.hi=(gt A i).frm∧(lst out).iv.openHi=false∧(lst out).f=red (gt A i).f (gt A i).frm)
variable {eqf same red}
theorem InvE.le (hA:Turns pl A) {out:List (U α)} {i:Nat} (hi:i < A.length) (h:InvE pl A out i):out.length=0∨pl (lst out).iv.hi≤pl (gt A i).frm:=by
 by_cases c:0 < i∧(gt A (i - 1)).has=true
 · have e:=hA.adj (i - 1) (by omega)
   rw [show i - 1+1=i by omega] at e
   rw [(h.1 c).2.1,e]; exact .inr (Nat.le_refl _)
 · rcases h.2 c with h1 | ⟨h0,h1⟩
   · exact .inl h1
   · have h2:=hA.mono' (by omega:i - 1 < i) hi
     have h3:=hA.le1 (by omega:i - 1 < A.length)
     exact .inr (by omega)
theorem InvO.le (hA:Turns pl A) {out:List (U α)} {i:Nat} (hi:i < A.length) (h:InvO same red pl A out i):out.length=0∨pl (lst out).iv.hi≤pl (gt A i).frm:=by
 by_cases m:mgd same A i
 · rw [(h.1 m).2.1]; exact .inr (Nat.le_refl _)
 · by_cases c:(gt A i).has=false∨lft same A i
   · exact (h.2.1 m c).le hA hi
   · have c1:(gt A i).has=true:=by cases hh:(gt A i).has with
      | true=>rfl
      | false=>exact absurd (.inl hh) c
     rw [(h.2.2 m c1 fun h=>c (.inr h)).2.2.1]; exact .inr (Nat.le_refl _)
theorem pt_step (hA:Turns pl A) {out:List (U α)} {i:Nat} (hi:i < A.length) (he:i % 2=0) (hh:(gt A i).has=true) (h:InvE pl A out i) :
 gy eqf same red (j7 A) out (iP A i)=fA eqf same red A out i∧InvO same red pl A (fA eqf same red A out i) i:=by
 have hg:=hA.even hi he
 have hp:=hA.pt i hi hg
 obtain ⟨hc,hx⟩:=od hi hh
 have hv:(gt (j7 A) (iP A i)).iv=⟨(gt A i).frm,(gt A i).frm,false,false⟩:=by rw [hx]; unfold toU; rw [hg,hp]
 have hf:(gt (j7 A) (iP A i)).f=(gt A i).f:=by rw [hx]; rfl
 have hins:aN ⟨(gt A i).frm,(gt A i).frm,false,false⟩=true:=decide_eq_true rfl
 have e0:iP A (i+1)=iP A i+1:=pj hi hh
 have hnext:(decide (((iP A i+1:Nat):Int) < (((j7 A).length:Nat):Int)) && decide ((gt (j7 A) (iP A i+1)).iv.lo=(gt A i).frm) && same (gt (j7 A) (iP A i+1)).f (gt A i).f (gt A i).frm)
  = (decide (((i+1:Nat):Int) < ((A.length:Nat):Int)) && (gt A (i+1)).has && same (gt A (i+1)).f (gt A i).f (gt A i).frm):=by
  by_cases hn:i+1 < A.length
  · rw [decide_eq_true (by omega:((i+1:Nat):Int) < ((A.length:Nat):Int)),Bool.true_and]
    have hgn:=hA.odd hn (by omega)
    cases hb:(gt A (i+1)).has with
    | true =>
     obtain ⟨k1,k2⟩:=od hn hb
     rw [e0] at k1 k2
     rw [decide_eq_true (by omega:((iP A i+1:Nat):Int) < (((j7 A).length:Nat):Int)),k2]
     rw [show (toU (gt A (i+1))).iv.lo=(gt A i).frm by unfold toU; rw [hA.adj i hn,hp],decide_eq_true rfl]
     rfl
    | false =>
     rw [Bool.false_and]
     by_cases hl:iP A i+1 < (j7 A).length
     · have e1:=sc hn hb
       obtain ⟨j,j1,j2,j3,j4,j5⟩:=vu (A:=A) A.length (i+1+1) (by omega) (by omega) (by rw [e1,e0]; exact hl)
       obtain ⟨_,k2⟩:=od j2 j3
       rw [j4,e1,e0] at k2
       have hne:(gt A j).frm≠(gt A i).frm:=fun e=>by
        have q1:=hA.mono' (by omega:i+1 < j) j2
        have q2:=hA.lt (i+1) hn hgn
        have q3:=hA.adj i hn
        rw [hp] at q3
        have q4:=congrArg pl q3
        have q5:=congrArg pl e
        omega
       rw [k2,show (toU (gt A j)).iv.lo=(gt A j).frm from rfl,decide_eq_false hne]
       simp
     · rw [decide_eq_false (by omega:¬ ((iP A i+1:Nat):Int) < (((j7 A).length:Nat):Int))]
       rfl
  · rw [decide_eq_false (by omega:¬ ((i+1:Nat):Int) < ((A.length:Nat):Int))]
    have e2:i+1=A.length:=by omega
    rw [e2,sd] at e0
    rw [decide_eq_false (by omega:¬ ((iP A i+1:Nat):Int) < (((j7 A).length:Nat):Int))]
    rfl
 by_cases m:mgd same A i
 · obtain ⟨m1,m2,m3,m4⟩:=m
   obtain ⟨a1,a2,a3,a4,a5⟩:=h.1 ⟨m2,m3⟩
   have ea:=hA.adj (i - 1) (by omega)
   rw [show i - 1+1=i by omega] at ea
   have hb:wd (j7 A) out (iP A i)=true:=ke.2 ⟨a1,by rw [a2,hv,ea],fun e=>by rw [e] at a4; omega⟩
   have e1:gy eqf same red (j7 A) out (iP A i)=out.set (out.length - 1) ⟨⟨(lst out).iv.lo,(lst out).iv.hi,(lst out).iv.openLo,false⟩,(lst out).f⟩:=by
    unfold gy
    rw [hb,cond_true,hv,hins,Bool.not_true,cond_false,hf]
    rw [show same (gt out (out.length - 1)).f (gt A i).f (gt A i).frm=true from by rw [show (gt out (out.length - 1)).f=(gt A (i - 1)).f from a5]; exact m4,cond_true]
    rfl
   have e2:fA eqf same red A out i=out.set (out.length - 1) ⟨⟨(lst out).iv.lo,(lst out).iv.hi,(lst out).iv.openLo,false⟩,(lst out).f⟩:=by
    unfold fA
    rw [hh,Bool.not_true,cond_false,hg,cond_false,decide_eq_true (by omega:((i:Nat):Int)>0),m3,m4,Bool.and_self,Bool.and_self,cond_true]
    rfl
   refine ⟨e1.trans e2.symm,?_⟩
   rw [e2]
   refine ⟨fun _=>?_,fun k=>absurd ⟨m1,m2,m3,m4⟩ k,fun k=>absurd ⟨m1,m2,m3,m4⟩ k⟩
   rw [yL a1,List.length_set]
   exact ⟨a1,by rw [ea]; exact a2,rfl,a4,a5⟩
 · 
  have hmb:((decide (((i:Nat):Int)>0) && (gt A (i - 1)).has) && same (gt A (i - 1)).f (gt A i).f (gt A i).frm)=false:=by
   cases hq:((decide (((i:Nat):Int)>0) && (gt A (i - 1)).has) && same (gt A (i - 1)).f (gt A i).f (gt A i).frm) with
   | false=>rfl
   | true =>
    simp only [Bool.and_eq_true,decide_eq_true_eq] at hq
    exact absurd ⟨hh,by omega,hq.1.2,hq.2⟩ m
  have e1:gy eqf same red (j7 A) out (iP A i)=nr same red (j7 A) out (iP A i):=by
   unfold gy
   rw [hv,hins,Bool.not_true,cond_false,cond_false,hf]
   cases hb:wd (j7 A) out (iP A i) with
   | false=>rfl
   | true =>
    rw [cond_true]
    obtain ⟨b1,b2,b3⟩:=ke.1 hb
    rw [hv] at b2
    have hs:same (gt out (out.length - 1)).f (gt A i).f (gt A i).frm=false:=by
     by_cases c:0 < i∧(gt A (i - 1)).has=true
     · rw [show (gt out (out.length - 1)).f=(gt A (i - 1)).f from (h.1 c).2.2.2.2]
       cases hs:same (gt A (i - 1)).f (gt A i).f (gt A i).frm with
       | false=>rfl
       | true=>exact absurd ⟨hh,c.1,c.2,hs⟩ m
     · rcases h.2 c with h1 | ⟨h0,h1⟩
       · omega
       · have q1:=hA.lt (i - 1) (by omega) (hA.odd (by omega) (by omega))
         have q2:=hA.adj (i - 1) (by omega)
         rw [show i - 1+1=i by omega] at q2
         have q3:pl (lst out).iv.hi=pl (gt A i).frm:=congrArg pl b2
         rw [q2] at q3
         omega
    rw [hs,cond_false]
  have e2:fA eqf same red A out i=nr same red (j7 A) out (iP A i):=by
   unfold fA nr
   rw [hh,Bool.not_true,cond_false,hg,cond_false,hmb,cond_false,hv,hf]
   rw [hnext,hp]
  refine ⟨e1.trans e2.symm,?_⟩
  rw [e2]
  refine ⟨fun k=>absurd k m,fun _ hl=>?_,fun _ _ hl=>?_⟩
  · have hl:lft same A i:=hl.elim (fun e=>by rw [hh] at e; cases e) id
    have e3:nr same red (j7 A) out (iP A i)=out:=by
     unfold nr
     rw [hv,hf,hnext,decide_eq_true (by have:=hl.1; omega:((i+1:Nat):Int) < ((A.length:Nat):Int)),hl.2.1,hl.2.2]
     rfl
    rw [e3]; exact h
  · have hlb:(decide (((i+1:Nat):Int) < ((A.length:Nat):Int)) && (gt A (i+1)).has && same (gt A (i+1)).f (gt A i).f (gt A i).frm)=false:=by
     cases hq:(decide (((i+1:Nat):Int) < ((A.length:Nat):Int)) && (gt A (i+1)).has && same (gt A (i+1)).f (gt A i).f (gt A i).frm) with
     | false=>rfl
     | true =>
      simp only [Bool.and_eq_true,decide_eq_true_eq] at hq
      exact absurd ⟨by omega,hq.1.2,hq.2⟩ hl
    have e3:nr same red (j7 A) out (iP A i)=out++[⟨⟨(gt A i).frm,(gt A i).frm,false,false⟩,red (gt A i).f (gt A i).frm⟩]:=by
     unfold nr
     rw [hv,hf,hnext,hlb]
     rfl
    rw [e3,lZ]
    exact ⟨by simp,rfl,rfl,rfl,rfl⟩
theorem gap_step (heq:∀ a b,eqf a b=true→a=b) (hA:Turns pl A) {out:List (U α)} {i:Nat} (hi:i+1 < A.length) (he:i % 2=0) (hh:(gt A (i+1)).has=true) (h:InvO same red pl A out i) :
 gy eqf same red (j7 A) out (iP A (i+1))=fA eqf same red A out (i+1)∧InvE pl A (fA eqf same red A out (i+1)) (i+2):=by
 have hg:=hA.odd hi (by omega)
 have hlt:=hA.lt (i+1) hi hg
 have hgp:=hA.even (by omega:i < A.length) he
 have hpp:=hA.pt i (by omega) hgp
 have ea:=hA.adj i hi
 rw [hpp] at ea
 obtain ⟨hc,hx⟩:=od hi hh
 have hv:(gt (j7 A) (iP A (i+1))).iv=⟨(gt A i).frm,(gt A (i+1)).til,true,true⟩:=by rw [hx]; unfold toU; rw [hg,ea]
 have hf:(gt (j7 A) (iP A (i+1))).f=(gt A (i+1)).f:=by rw [hx]; rfl
 have hins:aN ⟨(gt A i).frm,(gt A (i+1)).til,true,true⟩=false:=decide_eq_false fun e=>by
  have e:(gt A i).frm=(gt A (i+1)).til:=e
  rw [ea,e] at hlt; omega
 rw [ea] at hlt
 have happ:∀ b:Bool,InvE pl A (out++[⟨⟨(gt A i).frm,(gt A (i+1)).til,b,true⟩,(gt A (i+1)).f⟩]) (i+2):=fun b=>by
  refine ⟨fun _=>?_,fun k=>absurd ⟨by omega,hh⟩ k⟩
  rw [lZ]
  exact ⟨by simp,rfl,rfl,hlt,rfl⟩
 have hngap:∀ b:Bool,((((decide (((iP A (i+1):Nat):Int)>0)) && (aN ((gt (j7 A) (iP A (i+1) - 1)).iv))) && (decide (((gt (j7 A) (iP A (i+1) - 1)).iv).lo=(gt A i).frm))) && (!(o6 out (gt A i).frm)))=b →
  ns (j7 A) out (iP A (i+1))=out++[⟨⟨(gt A i).frm,(gt A (i+1)).til,!b,true⟩,(gt A (i+1)).f⟩]:=fun b hb=>by
  unfold ns
  rw [hv,hb,hf,hx]
  cases b
  · rw [cond_false]
    unfold toU
    rw [hg,ea]
    rfl
  · rfl
 have hi2:(decide (((i+1:Nat):Int)≥2))=decide (0 < i):=decide_eq_decide.2 (by omega)
 by_cases m:mgd same A i
 · obtain ⟨m1,m2,m3,m4⟩:=m
   obtain ⟨a1,a2,a3,a4,a5⟩:=h.1 ⟨m1,m2,m3,m4⟩
   have hb:wd (j7 A) out (iP A (i+1))=true:=ke.2 ⟨a1,by rw [a2,hv],fun e=>by rw [e] at a4; omega⟩
   cases hq:eqf (gt A (i - 1)).f (gt A (i+1)).f with
   | true =>
    have e1:gy eqf same red (j7 A) out (iP A (i+1))=out.set (out.length - 1) ⟨⟨(lst out).iv.lo,(gt A (i+1)).til,(lst out).iv.openLo,true⟩,(lst out).f⟩:=by
     unfold gy
     rw [hb,cond_true,hv,hins,Bool.not_false,cond_true,hf]
     rw [show (gt out (out.length - 1)).iv.openHi=false from a3,show (gt out (out.length - 1)).f=(gt A (i - 1)).f from a5,hq,Bool.not_false,Bool.and_self,cond_true]
     rw [show (gt A (i - 1)).f=(lst out).f from a5.symm]
     rfl
    have e2:fA eqf same red A out (i+1)=out.set (out.length - 1) ⟨⟨(lst out).iv.lo,(gt A (i+1)).til,(lst out).iv.openLo,true⟩,(lst out).f⟩:=by
     unfold fA
     rw [hh,Bool.not_true,cond_false,hg,cond_true,hi2,decide_eq_true m2]
     rw [show i+1 - 2=i - 1 by omega,Nat.add_sub_cancel,m3,m1,ea,m4,hq]
     rfl
    refine ⟨e1.trans e2.symm,?_⟩
    rw [e2]
    refine ⟨fun _=>?_,fun k=>absurd ⟨by omega,hh⟩ k⟩
    rw [yL a1,List.length_set]
    rw [a2] at a4
    exact ⟨a1,rfl,rfl,Nat.lt_trans a4 hlt,a5.trans (heq _ _ hq)⟩
   | false =>
    have e1:gy eqf same red (j7 A) out (iP A (i+1))=ns (j7 A) out (iP A (i+1)):=by
     unfold gy
     rw [hb,cond_true,hv,hins,Bool.not_false,cond_true,hf]
     rw [show (gt out (out.length - 1)).f=(gt A (i - 1)).f from a5,hq,Bool.and_false,cond_false]
    have e2:=hngap false (by rw [ma.2 ⟨a1,a2,a3⟩,Bool.not_true,Bool.and_false])
    have e3:fA eqf same red A out (i+1)=out++[⟨⟨(gt A i).frm,(gt A (i+1)).til,!false,true⟩,(gt A (i+1)).f⟩]:=by
     unfold fA
     rw [hh,Bool.not_true,cond_false,hg,cond_true,hi2,decide_eq_true m2]
     rw [show i+1 - 2=i - 1 by omega,Nat.add_sub_cancel,m3,m1,ea,m4,hq]
     simp
    refine ⟨(e1.trans e2).trans e3.symm,?_⟩
    rw [e3]; exact happ _
 · have hmb:((((decide (((i+1:Nat):Int)≥2)) && (gt A (i+1 - 2)).has) && (gt A (i+1 - 1)).has) && same (gt A (i+1 - 2)).f (gt A (i+1 - 1)).f (gt A (i+1)).frm)=false:=by
    cases hq:((((decide (((i+1:Nat):Int)≥2)) && (gt A (i+1 - 2)).has) && (gt A (i+1 - 1)).has) && same (gt A (i+1 - 2)).f (gt A (i+1 - 1)).f (gt A (i+1)).frm) with
    | false=>rfl
    | true =>
     rw [hi2,show i+1 - 2=i - 1 by omega,Nat.add_sub_cancel,ea] at hq
     simp only [Bool.and_eq_true,decide_eq_true_eq] at hq
     exact absurd ⟨hq.1.2,hq.1.1.1,hq.1.1.2,hq.2⟩ m
   have hmb2:(gt A (i+1 - 1)).has=true→(((decide (((i+1:Nat):Int)≥2)) && (gt A (i+1 - 2)).has) && same (gt A (i+1 - 2)).f (gt A (i+1 - 1)).f (gt A (i+1)).frm)=false:=fun hp=>by
    rw [hp,Bool.and_true] at hmb
    exact hmb
   have e3:fA eqf same red A out (i+1)=out++[⟨⟨(gt A i).frm,(gt A (i+1)).til,!((gt A i).has && same (gt A (i+1)).f (gt A i).f (gt A i).frm),true⟩,(gt A (i+1)).f⟩]:=by
    unfold fA
    rw [hh,Bool.not_true,cond_false,hg,cond_true,hmb,Bool.false_and,cond_false]
    cases hp:(gt A (i+1 - 1)).has with
    | false =>
     rw [show (gt A i).has=false from hp,ea]
     simp
    | true =>
     rw [hmb2 hp,show (gt A i).has=true from hp,ea]
     simp
   have e1:gy eqf same red (j7 A) out (iP A (i+1))=ns (j7 A) out (iP A (i+1)):=by
    unfold gy
    rw [hv,hins,Bool.not_false,cond_true,cond_true,hf]
    cases hb:wd (j7 A) out (iP A (i+1)) with
    | false=>rfl
    | true =>
     rw [cond_true]
     obtain ⟨b1,b2,b3⟩:=ke.1 hb
     rw [hv] at b2
     have hs:(gt out (out.length - 1)).iv.openHi=true:=by
      by_cases c:(gt A i).has=false∨lft same A i
      · have h2:=h.2.1 m c
        by_cases c2:0 < i∧(gt A (i - 1)).has=true
        · exact (h2.1 c2).2.2.1
        · rcases h2.2 c2 with h1 | ⟨h0,h1⟩
          · omega
          · have q1:=hA.lt (i - 1) (by omega) (hA.odd (by omega) (by omega))
            have q2:=hA.adj (i - 1) (by omega)
            rw [show i - 1+1=i by omega] at q2
            have q3:pl (lst out).iv.hi=pl (gt A i).frm:=congrArg pl b2
            rw [q2] at q3
            omega
      · have c1:(gt A i).has=true:=by cases hh:(gt A i).has with
         | true=>rfl
         | false=>exact absurd (.inl hh) c
        obtain ⟨k1,k2,k3,k4,_⟩:=h.2.2 m c1 fun h=>c (.inr h)
        exact absurd (k2.trans k3.symm) b3
     rw [hs,Bool.not_true,Bool.false_and,cond_false]
   have hcond:((((decide (((iP A (i+1):Nat):Int)>0)) && (aN ((gt (j7 A) (iP A (i+1) - 1)).iv))) && (decide (((gt (j7 A) (iP A (i+1) - 1)).iv).lo=(gt A i).frm))) && (!(o6 out (gt A i).frm)))=((gt A i).has && same (gt A (i+1)).f (gt A i).f (gt A i).frm):=by
    cases hp:(gt A i).has with
    | true =>
     obtain ⟨_,y2⟩:=od (by omega:i < A.length) hp
     have y3:=pj (by omega:i < A.length) hp
     rw [y3,Nat.add_sub_cancel,decide_eq_true (by omega:((iP A i+1:Nat):Int)>0),y2]
     rw [show (toU (gt A i)).iv=⟨(gt A i).frm,(gt A i).frm,false,false⟩ by unfold toU; rw [hgp,hpp]]
     rw [show aN ⟨(gt A i).frm,(gt A i).frm,false,false⟩=true from decide_eq_true rfl,decide_eq_true rfl,Bool.and_self,Bool.and_self,Bool.true_and,Bool.true_and]
     by_cases l:lft same A i
     · rw [l.2.2]
       have h2:=h.2.1 m (.inr l)
       cases hb:o6 out (gt A i).frm with
       | false=>rfl
       | true =>
        obtain ⟨b1,b2,b3⟩:=ma.1 hb
        by_cases c2:0 < i∧(gt A (i - 1)).has=true
        · rw [(h2.1 c2).2.2.1] at b3; cases b3
        · rcases h2.2 c2 with h1 | ⟨h0,h1⟩
          · omega
          · have q1:=hA.lt (i - 1) (by omega) (hA.odd (by omega) (by omega))
            have q2:=hA.adj (i - 1) (by omega)
            rw [show i - 1+1=i by omega] at q2
            have q3:pl (lst out).iv.hi=pl (gt A i).frm:=congrArg pl b2
            rw [q2] at q3
            omega
     · obtain ⟨k1,k2,k3,k4,_⟩:=h.2.2 m hp l
       rw [ma.2 ⟨k1,k3,k4⟩]
       cases hs:same (gt A (i+1)).f (gt A i).f (gt A i).frm with
       | false=>rfl
       | true=>exact absurd ⟨hi,hh,hs⟩ l
    | false =>
     rw [Bool.false_and]
     by_cases hz:0 < iP A (i+1)
     · obtain ⟨j,j1,j2,j3,j4⟩:=vm (A:=A) (i+1) (by omega) hz
       have hji:j < i:=by
        rcases Nat.lt_or_ge j i with q | q
        · exact q
        · obtain rfl:j=i:=by omega
          rw [hp] at j2; cases j2
       obtain ⟨_,y2⟩:=od (by omega:j < A.length) j2
       rw [show iP A (i+1) - 1=iP A j by omega,y2]
       have hfalse:(aN (toU (gt A j)).iv && decide ((toU (gt A j)).iv.lo=(gt A i).frm))=false:=by
        cases hgj:(gt A j).gap with
        | true =>
         have q1:=hA.lt j (by omega) hgj
         rw [show aN (toU (gt A j)).iv=false from decide_eq_false fun e=>by
          have e:(gt A j).frm=(gt A j).til:=e
          rw [e] at q1; omega]
         rfl
        | false =>
         have hje:j % 2=0:=by
          have:=hA.gap j (by omega)
          rw [hgj] at this
          have:=of_decide_eq_false this.symm
          omega
         have q1:=hA.lt (j+1) (by omega) (hA.odd (by omega) (by omega))
         have q2:=hA.adj j (by omega)
         have q3:=hA.mono' (by omega:j+1 < i) (by omega)
         have q4:=hA.le1 (by omega:j < A.length)
         rw [q2] at q1
         rw [decide_eq_false fun e=>?_,Bool.and_false]
         have e:(gt A j).frm=(gt A i).frm:=e
         rw [e] at q4
         omega
       rw [Bool.and_assoc (decide _),hfalse,Bool.and_false]
       rfl
     · rw [decide_eq_false (by omega:¬ ((iP A (i+1):Nat):Int)>0)]
       rfl
   have e2:=hngap _ hcond
   refine ⟨(e1.trans e2).trans e3.symm,?_⟩
   rw [e3]; exact happ _
theorem tj (heq:∀ a b,eqf a b=true→a=b) (hA:Turns pl A):∀ i,i≤A.length→ig (gy eqf same red (j7 A)) [] (iP A i)=ig (fA eqf same red A) [] i ∧
 (i % 2=0→InvE pl A (ig (fA eqf same red A) [] i) i)∧(i % 2=1→InvO same red pl A (ig (fA eqf same red A) [] i) (i - 1)):=by
 have no:∀ (out:List (U α)) i,(gt A i).has=false→fA eqf same red A out i=out:=fun out i h=>by unfold fA; rw [h]; rfl
 intro i
 induction i with
 | zero=>intro _; exact ⟨rfl,fun _=>⟨fun h=>absurd h.1 (Nat.lt_irrefl 0),fun _=>.inl rfl⟩,fun h=>by cases h⟩
 | succ i ih =>
  intro hi
  obtain ⟨h1,h2,h3⟩:=ih (by omega)
  show _=fA eqf same red A (ig (fA eqf same red A) [] i) i∧(_→InvE pl A (fA eqf same red A (ig (fA eqf same red A) [] i) i) (i+1))∧(_→InvO same red pl A (fA eqf same red A (ig (fA eqf same red A) [] i) i) (i+1 - 1))
  cases hh:(gt A i).has with
  | false =>
   rw [sc hi hh,no _ _ hh]
   refine ⟨h1,fun he=>?_,fun ho=>?_⟩
   · have h4:=(h3 (by omega)).le hA (by omega)
     refine ⟨fun k=>absurd k.2 (by rw [Nat.add_sub_cancel,hh]; decide),fun _=>?_⟩
     rcases h4 with h4 | h4
     · exact .inl h4
     · refine .inr ⟨by omega,?_⟩
       have q1:=hA.adj (i - 1) (by omega)
       have q2:=hA.pt (i - 1) (by omega) (hA.even (by omega) (by omega))
       rw [show i - 1+1=i by omega,q2] at q1
       rw [Nat.add_sub_cancel,q1]
       exact h4
   · have h4:=h2 (by omega)
     rw [Nat.add_sub_cancel]
     exact ⟨fun k=>absurd k.1 (by rw [hh]; decide),fun _ _=>h4,fun _ k=>absurd k (by rw [hh]; decide)⟩
  | true =>
   rw [pj hi hh]
   show gy eqf same red (j7 A) (ig (gy eqf same red (j7 A)) [] (iP A i)) (iP A i)=_∧_
   rw [h1]
   rcases Nat.mod_two_eq_zero_or_one i with he | ho
   · obtain ⟨k1,k2⟩:=pt_step (eqf:=eqf) (same:=same) (red:=red) hA hi he hh (h2 he)
     exact ⟨k1,fun q=>by omega,fun _=>by rw [Nat.add_sub_cancel]; exact k2⟩
   · obtain ⟨i,rfl⟩:∃ j,i=j+1:=⟨i - 1,by omega⟩
     have h4:=h3 ho
     rw [Nat.add_sub_cancel] at h4
     obtain ⟨k1,k2⟩:=gap_step (eqf:=eqf) (same:=same) (red:=red) heq hA hi (by omega) hh h4
     exact ⟨k1,fun _=>k2,fun q=>by omega⟩
theorem loops_eq (heq:∀ a b,eqf a b=true→a=b) (hA:Turns pl A):ig (gy eqf same red (j7 A)) [] (j7 A).length=ig (fA eqf same red A) [] A.length:=by
 have:=(tj (same:=same) (red:=red) heq hA A.length (Nat.le_refl _)).1
 rwa [sd] at this
end
end Go.Sx
namespace Go.Sx
theorem foldl_cons {α β:Type} (g:α→β):∀ (l:List α) (o:List β),l.foldl (fun o i=>g i::o) o=(l.map g).reverse++o
 | [],o=>rfl
 | x::l,o=>by rw [List.foldl_cons,foldl_cons g l]; simp
theorem mP {α:Type} [Inhabited α] {z:α} {u:List (U α)} {E:List GR} {i:Nat} (h:i < (je z u E).length):gt (je z u E) i=kn u (gt (gV z E) i):=by
 have h2:i < (gV z E).length:=by simpa [je] using h
 have:gt ((gV z E).map (kn u)) i=kn u (gt (gV z E) i):=by
  rw [gU (by simpa using h2),gU h2,List.getElem_map]
 exact this
theorem pz [K:Key] {α:Type} [Inhabited α] {z:α} {u:List (U α)} {E:List GR} (hE:Ts E):Turns tk (je z u E):=by
 have hl:(je z u E).length=(gV z E).length:=by unfold je; rw [List.length_map]
 have ok:∀ {i},i < (je z u E).length→_:=fun {i} hi=>aam (z:=z) hE (a:=gt (gV z E) i) (by rw [gU (hl ▸ hi)]; exact List.getElem_mem _)
 refine ⟨fun i hi=>?_,fun i hi=>?_,fun i hi hg=>?_,fun i hi hg=>?_⟩
 · rw [mP hi,(gZ u _).2.1]; exact (sk i (hl ▸ hi)).1
 · rw [mP hi,mP (by omega:i < (je z u E).length),(gZ u _).1,(gZ u _).2.2]
   exact (sk i (by omega)).2 (hl ▸ hi)
 · rw [mP hi] at hg ⊢
   rw [(gZ u _).2.1] at hg
   rw [(gZ u _).1,(gZ u _).2.2]
   exact (ok hi).2.2.1 hg
 · rw [mP hi] at hg ⊢
   rw [(gZ u _).2.1] at hg
   rw [(gZ u _).1,(gZ u _).2.2]
   exact (ok hi).2.2.2 hg
end Go.Sx
