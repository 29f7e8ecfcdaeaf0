/- A part of the proof of movingnumberChecks. -/
import Derived.Test.YtpfdaoajcnophaaGreatDoorB9
import Derived.Test.YtpfdaoajcnophaaGreatDoorProg
import Derived.Test.YtpfdaoajcnophaaGreatDoorC1
import Derived.Test.YtpfdaoajcnophaaGreatDoorB7
set_option linter.unusedVariables false
set_option linter.unusedSimpArgs false
open Go.Proofs.Tryz renaming underlying86 → nn86, call250 → cc250, sizeOf86 → zz86, runUnderlying88 → uu88, sizeOf74 → zz74, runUnderlying74 → uu74, sizeOf46 → zz46, isAgg46 → aa46
namespace Go.Sx
section
variable {α:Type} [Inhabited α] (eqf:α→α→Bool) (same:α→α→GR→Bool) (red:α→GR→α)
def Lk (x y:U α):Prop :=
 x.iv.hi=y.iv.lo →
  (x.iv.lo=x.iv.hi→same y.f x.f y.iv.lo=false) ∧
  (x.iv.lo≠x.iv.hi→(x.iv.openHi=false→eqf x.f y.f=false)∧(x.iv.openHi=true→y.iv.openLo=false→same x.f y.f y.iv.lo=false))
structure NF [K:Key] (n:List (U α)):Prop where
 wv:∀ x∈n,Wv x.iv
 ord:n.Pairwise fun a b=>kj a.iv < (io b.iv:Int)
 lk:∀ i,i+1 < n.length→Lk eqf same (gt n i) (gt n (i+1))
 inst:∀ x∈n,x.iv.lo=x.iv.hi→red x.f x.iv.lo=x.f
variable {eqf same red} {L out:List (U α)} {x:Nat} {t t':GR} {f:α}
theorem sn_left (hx:gt L x=ptU t f) (hb:0 < out.length→(lst out).iv.hi=t→(lst out).iv.lo≠(lst out).iv.hi→same (lst out).f f t=false) (hn:x+1 < L.length) (h2:(gt L (x+1)).iv.lo=t) (h3:same (gt L (x+1)).f f t=true) :
 gy eqf same red L out x=out:=by
 have hp:nr same red L out x=out:=by
  unfold nr
  rw [hx]
  show (bif (((decide (((x+1:Nat):Int) < ((L.length:Nat):Int))) && (decide ((gt L (x+1)).iv.lo=t))) && (same ((gt L (x+1)).f) f t)) then out else _)=out
  rw [decide_eq_true (by omega:((x+1:Nat):Int) < ((L.length:Nat):Int)),h2,decide_eq_true rfl,h3]
  rfl
 unfold gy
 rw [hp,hx]
 show (bif wd L out x then bif (!(decide (t=t))) then _ else bif (same (gt out (out.length - 1)).f f t) then _ else out else bif (!(decide (t=t))) then _ else out)=out
 rw [decide_eq_true rfl]
 cases hbf:wd L out x with
 | false=>rfl
 | true =>
  obtain ⟨b1,b2,b3⟩:=ke.1 hbf
  rw [hx] at b2
  have hs:same (gt out (out.length - 1)).f f t=false:=hb b1 b2 b3
  rw [hs]; rfl
theorem sn_app (hx:gt L x=ptU t f) (hb:0 < out.length→(lst out).iv.hi=t→(lst out).iv.lo≠(lst out).iv.hi→same (lst out).f f t=false) (hn:x+1 < L.length→(gt L (x+1)).iv.lo=t→same (gt L (x+1)).f f t=false) :
 gy eqf same red L out x=out++[ptU t (red f t)]:=by
 have hp:nr same red L out x=out++[ptU t (red f t)]:=by
  unfold nr
  rw [hx]
  show (bif (((decide (((x+1:Nat):Int) < ((L.length:Nat):Int))) && (decide ((gt L (x+1)).iv.lo=t))) && (same ((gt L (x+1)).f) f t)) then out else out++[ptU t (red f t)])=_
  cases hq:(((decide (((x+1:Nat):Int) < ((L.length:Nat):Int))) && (decide ((gt L (x+1)).iv.lo=t))) && (same ((gt L (x+1)).f) f t)) with
  | false=>rfl
  | true =>
   simp only [Bool.and_eq_true,decide_eq_true_eq] at hq
   rw [hn (by omega) hq.1.2] at hq
   exact absurd hq.2 (by decide)
 unfold gy
 rw [hp,hx]
 show (bif wd L out x then bif (!(decide (t=t))) then _ else bif (same (gt out (out.length - 1)).f f t) then _ else _ else bif (!(decide (t=t))) then _ else _)=_
 rw [decide_eq_true rfl]
 cases hbf:wd L out x with
 | false=>rfl
 | true =>
  obtain ⟨b1,b2,b3⟩:=ke.1 hbf
  rw [hx] at b2
  have hs:same (gt out (out.length - 1)).f f t=false:=hb b1 b2 b3
  rw [hs]; rfl
theorem sn_gap (hx:gt L x=xx t t' f) (hne:t≠t') (hb:0 < out.length→(lst out).iv.hi=t→(lst out).iv.lo≠(lst out).iv.hi→(lst out).iv.openHi=false→eqf (lst out).f f=false)
 (own:Bool) (ho:own=true↔(0 < x∧(gt L (x - 1)).iv.lo=(gt L (x - 1)).iv.hi∧(gt L (x - 1)).iv.lo=t∧o6 out t=false)) :
 gy eqf same red L out x=out++[⟨⟨t,t',!own,true⟩,f⟩]:=by
 have hp:ns L out x=out++[⟨⟨t,t',!own,true⟩,f⟩]:=by
  unfold ns
  rw [hx]
  have hc:((((decide (((x:Nat):Int)>0)) && (aN ((gt L (x - 1)).iv))) && (decide (((gt L (x - 1)).iv).lo=t))) && (!(o6 out t)))=own:=by
   cases own with
   | true =>
    obtain ⟨a1,a2,a3,a4⟩:=ho.1 rfl
    rw [a4,decide_eq_true a3,decide_eq_true (by omega:((x:Nat):Int)>0)]
    unfold aN
    rw [decide_eq_true a2]; rfl
   | false =>
    cases hq:((((decide (((x:Nat):Int)>0)) && (aN ((gt L (x - 1)).iv))) && (decide (((gt L (x - 1)).iv).lo=t))) && (!(o6 out t))) with
    | false=>rfl
    | true =>
     simp only [Bool.and_eq_true,decide_eq_true_eq,Bool.not_eq_true'] at hq
     unfold aN at hq
     exact absurd (ho.2 ⟨by omega,of_decide_eq_true hq.1.1.2,hq.1.2,hq.2⟩) (by decide)
  show (bif ((((decide (((x:Nat):Int)>0)) && (aN ((gt L (x - 1)).iv))) && (decide (((gt L (x - 1)).iv).lo=t))) && (!(o6 out t))) then _ else _)=_
  rw [hc]
  cases own <;> rfl
 unfold gy
 rw [hp,hx]
 show (bif wd L out x then bif (!(decide (t=t'))) then bif ((!((gt out (out.length - 1)).iv).openHi) && (eqf ((gt out (out.length - 1)).f) f)) then _ else _ else _ else bif (!(decide (t=t'))) then _ else _)=_
 rw [decide_eq_false hne]
 cases hbf:wd L out x with
 | false=>rfl
 | true =>
  obtain ⟨b1,b2,b3⟩:=ke.1 hbf
  rw [hx] at b2
  cases hoh:(gt out (out.length - 1)).iv.openHi with
  | true=>rfl
  | false =>
   rw [show eqf (gt out (out.length - 1)).f f=false from hb b1 b2 b3 hoh]; rfl
theorem sn_end (hx:gt L x=ptU t f) (h0:0 < out.length) (h1:(lst out).iv.hi=t) (h2:(lst out).iv.lo≠(lst out).iv.hi) (hs:same (lst out).f f t=true) :
 gy eqf same red L out x=out.set (out.length - 1) ⟨⟨(lst out).iv.lo,(lst out).iv.hi,(lst out).iv.openLo,false⟩,(lst out).f⟩:=by
 unfold gy
 rw [ke.2 ⟨h0,by rw [hx]; exact h1,h2⟩,hx]
 show (bif true then bif (!(decide (t=t))) then _ else bif (same (gt out (out.length - 1)).f f t) then _ else _ else _)=_
 rw [decide_eq_true rfl,show same (gt out (out.length - 1)).f f t=true from hs]
 rfl
omit [Inhabited α] in
theorem u5 {p:List (U α)} {y z:U α}:(p++[y]).set ((p++[y]).length - 1) z=p++[z]:=by
 rw [List.length_append,List.length_singleton,Nat.add_sub_cancel,List.set_append_right _ _ (Nat.le_refl _),Nat.sub_self]; rfl
theorem pY {p:List (U α)} (h:0 < p.length):lst p∈p:=by
 unfold lst
 rw [gU (by omega)]; exact List.getElem_mem _
omit [Inhabited α] in
theorem atU_ne {u:U α}:atU u=[]→aN u.iv=true∧u.iv.openLo=true:=by
 unfold atU
 cases u.iv.openLo <;> cases aN u.iv <;> simp
theorem nf_fix [K:Key] {n:List (U α)} (h:NF eqf same red n) (hr:∀ x∈n,∀ t,Tm t→same x.f x.f t=true) :
 ∀ (s p:List (U α)),n=p++s→ig (gy eqf same red (n.flatMap atU)) [] (p.flatMap atU).length=p→ig (gy eqf same red (n.flatMap atU)) [] (n.flatMap atU).length=n
 | [],p,hn,hp=>by
  rw [List.append_nil] at hn
  rw [← hn] at hp
  exact hp
 | y::s,p,hn,hp=>by
  refine nf_fix h hr s (p++[y]) (by rw [hn]; simp) ?_
  have hL:n.flatMap atU=p.flatMap atU++(atU y++s.flatMap atU):=by rw [hn]; simp
  have hy:y∈n:=by rw [hn]; simp
  have hwy:=h.wv y hy
  have hc:((p++[y]).flatMap atU).length=(p.flatMap atU).length+(atU y).length:=by simp
  rw [hc]
  generalize hcc:(p.flatMap atU).length=c at *
  generalize hLL:n.flatMap atU=L at *
  have hLl:L.length=c+((atU y).length+(s.flatMap atU).length):=by rw [hL,List.length_append,List.length_append,hcc]
  have hI:∀ k,ig (gy eqf same red L) [] (c+(k+1))=gy eqf same red L (ig (gy eqf same red L) [] (c+k)) (c+k):=fun _=>rfl
  have hprev:0 < p.length→lst p∈n∧kj (lst p).iv < (io y.iv:Int)∧Lk eqf same (lst p) y:=fun h0=>by
   have e1:gt n (p.length - 1)=lst p:=by
    rw [hn]; unfold lst; rw [ii (by omega)]
   have e2:gt n (p.length - 1+1)=y:=by
    rw [show p.length - 1+1=p.length by omega,hn]; exact oe rfl
   have hl:=h.lk (p.length - 1) (by rw [hn]; simp; omega)
   rw [e1,e2] at hl
   have ho:=h.ord
   rw [hn,List.pairwise_append] at ho
   exact ⟨by rw [hn]; exact List.mem_append_left _ (pY h0),ho.2.2 _ (pY h0) y (List.mem_cons_self ..),hl⟩
  have hat:0 < c→0 < p.length∧((lst p).iv.lo≠(lst p).iv.hi→(lst p).iv.openHi=true→gt L (c - 1)=xx (lst p).iv.lo (lst p).iv.hi (lst p).f) ∧
   (((lst p).iv.lo=(lst p).iv.hi∨(lst p).iv.openHi=false)→gt L (c - 1)=ptU (lst p).iv.hi (lst p).f):=fun h0=>by
   have hpl:0 < p.length:=by
    cases p with
    | nil =>
     have hcc:0=c:=hcc
     omega
    | cons _ _=>simp
   obtain ⟨q,z,rfl⟩:∃ q z,p=q++[z]:=⟨p.dropLast,p.getLast (by intro e; rw [e] at hpl; simp at hpl),(List.dropLast_concat_getLast _).symm⟩
   have hzm:z∈n:=by rw [hn]; simp
   have hwz:=h.wv z hzm
   rw [lZ]
   refine ⟨hpl,?_⟩
   have hz:gt L (c - 1)=gt (atU z) ((atU z).length - 1)∨atU z=[]:=by
    by_cases e:atU z=[]
    · exact .inr e
    · left
      have hl0:0 < (atU z).length:=List.length_pos_iff.2 e
      have e3:c=(q.flatMap atU).length+(atU z).length:=by rw [← hcc]; simp
      have e4:L=q.flatMap atU++(atU z++(atU y++s.flatMap atU)):=by rw [hL]; simp
      rw [e4,e3]
      have e5:gt (q.flatMap atU++(atU z++(atU y++s.flatMap atU))) ((q.flatMap atU).length+(atU z).length - 1)=gt (atU z++(atU y++s.flatMap atU)) ((atU z).length - 1):=by
       rw [show (q.flatMap atU).length+(atU z).length - 1=(q.flatMap atU).length+((atU z).length - 1) by omega]
       simp [gt,List.getD,List.getElem?_append_right]
      rw [e5,ii (by omega)]
   have hz:gt L (c - 1)=gt (atU z) ((atU z).length - 1):=by
    rcases hz with hz | hz
    · exact hz
    · obtain ⟨a1,a2⟩:=atU_ne hz
      unfold aN at a1
      have:=(hwz.2.2 (by rw [of_decide_eq_true a1])).1
      rw [this] at a2; cases a2
   rw [hz]
   refine ⟨fun a1 a2=>?_,fun a1=>?_⟩
   · unfold atU aN
     rw [decide_eq_false a1,a2]
     cases z.iv.openLo <;> rfl
   · by_cases e:z.iv.lo=z.iv.hi
     · have e1:=(hwz.2.2 (by rw [e])).1
       unfold atU aN
       rw [decide_eq_true e,e1,← e]
       rfl
     · rcases a1 with a1 | a1
       · exact absurd a1 e
       · unfold atU aN
         rw [decide_eq_false e,a1]
         cases z.iv.openLo <;> rfl
  have hnx:c+(atU y).length < L.length→∃ z∈n,gt L (c+(atU y).length)=gt (atU z) 0∧(gt (atU z) 0).iv.lo=z.iv.lo∧(gt (atU z) 0).f=z.f∧kj y.iv < (io z.iv:Int)∧Lk eqf same y z:=fun h0=>by
   cases s with
   | nil =>
    have e0:(List.flatMap (atU (α:=α)) []).length=0:=rfl
    rw [e0] at hLl
    omega
   | cons z s =>
    have hzm:z∈n:=by rw [hn]; simp
    have hwz:=h.wv z hzm
    have ho:=h.ord
    rw [hn,List.pairwise_append,List.pairwise_cons] at ho
    have hlz:=h.lk p.length (by rw [hn]; simp)
    have e1:gt n p.length=y:=by rw [hn]; exact oe rfl
    have e2:gt n (p.length+1)=z:=by rw [hn,show p++y::z::s=(p++[y])++z::s by simp]; exact oe (by simp)
    rw [e1,e2] at hlz
    have hne:atU z≠[]:=fun e=>by
     obtain ⟨a1,a2⟩:=atU_ne e
     unfold aN at a1
     have:=(hwz.2.2 (by rw [of_decide_eq_true a1])).1
     rw [this] at a2; cases a2
    have e3:gt L (c+(atU y).length)=gt (atU z) 0:=by
     have e4:L=(p.flatMap atU++atU y)++(atU z++s.flatMap atU):=by rw [hL,List.flatMap_cons,List.append_assoc]
     rw [e4]
     have hl0:0 < (atU z).length:=List.length_pos_iff.2 hne
     have:c+(atU y).length=(p.flatMap atU++atU y).length+0:=by rw [List.length_append,hcc,Nat.add_zero]
     rw [this]
     have:∀ (A B:List (U α)),gt (A++B) (A.length+0)=gt B 0:=fun A B=>by simp [gt,List.getD,List.getElem?_append_right]
     rw [this,ii hl0]
    refine ⟨z,hzm,e3,?_,?_,ho.2.1.1 z (List.mem_cons_self ..),hlz⟩
    · revert hne
      unfold atU
      intro hne
      revert hne
      cases z.iv.openLo <;> cases aN z.iv <;> first | (intro _; rfl) | (intro hne; exact absurd rfl hne)
    · revert hne
      unfold atU
      intro hne
      revert hne
      cases z.iv.openLo <;> cases aN z.iv <;> first | (intro _; rfl) | (intro hne; exact absurd rfl hne)
  have hgt:∀ k,k < (atU y).length→gt L (c+k)=gt (atU y) k:=fun k hk=>by
   rw [hL,← hcc]
   have:∀ (A B:List (U α)),gt (A++B) (A.length+k)=gt B k:=fun A B=>by simp [gt,List.getD,List.getElem?_append_right]
   rw [this,ii hk]
  have hlen:c+(atU y).length≤L.length:=by omega
  have hpf:0 < p.length→(lst p).iv.hi=y.iv.lo→(lst p).iv.lo≠(lst p).iv.hi→y.iv.openLo=false→(lst p).iv.openHi=true∧same (lst p).f y.f y.iv.lo=false:=fun h0 h1 h2 h3=>by
   obtain ⟨_,a2,a3⟩:=hprev h0
   have:(lst p).iv.openHi=true:=by
    cases e:(lst p).iv.openHi with
    | true=>rfl
    | false =>
     unfold kj io at a2
     rw [e,h3,h1] at a2
     simp at a2
   exact ⟨this,((a3 h1).2 h2).2 this h3⟩
  by_cases hi:y.iv.lo=y.iv.hi
  · 
   obtain ⟨o1,o2⟩:=hwy.2.2 (by rw [hi])
   have ea:atU y=[ptU y.iv.lo y.f]:=by
    unfold atU aN
    rw [o1,decide_eq_true hi]; rfl
   have hx0:gt L (c+0)=ptU y.iv.lo y.f:=by rw [hgt 0 (by rw [ea]; simp),ea]; rfl
   rw [ea] at hnx ⊢
   show ig _ [] (c+(0+1))=_
   rw [hI 0]
   show gy eqf same red L (ig _ [] c) (c+0)=_
   rw [hp,sn_app hx0 (fun a1 a2 a3=>(hpf a1 a2 a3 o1).2) fun a1 a2=>?_,h.inst y hy hi]
   · have:ptU y.iv.lo y.f=y:=by
      obtain ⟨⟨lo,hi',ol,oh⟩,f⟩:=y
      simp only at hi o1 o2
      unfold ptU
      simp only
      rw [o1,o2,← hi]
     rw [this]
   · obtain ⟨z,hz,e1,e2,e3,e4,e5⟩:=hnx a1
     have a2:(gt L (c+1)).iv.lo=y.iv.lo:=a2
     have e1:gt L (c+1)=gt (atU z) 0:=e1
     rw [e1,e2] at a2
     show same (gt L (c+1)).f y.f y.iv.lo=false
     rw [e1,e3]
     have:=(e5 (by rw [a2,hi])).1 hi
     rwa [a2] at this
  · 
   have hini:aN y.iv=false:=decide_eq_false hi
   have hE:∀ (k:Nat) (o:List (U α)) (b:Bool),ig (gy eqf same red L) [] (c+k)=p++[⟨⟨y.iv.lo,y.iv.hi,b,true⟩,y.f⟩]→b=y.iv.openLo→(y.iv.openHi=false→gt L (c+k)=ptU y.iv.hi y.f) →
    ig (gy eqf same red L) [] (c+(k+(bif y.iv.openHi then 0 else 1)))=p++[y]:=fun k o b e1 e2 e3=>by
    cases ho:y.iv.openHi with
    | true =>
     show ig _ [] (c+k)=_
     rw [e1,e2,← ho]
    | false =>
     show ig _ [] (c+(k+1))=_
     rw [hI k,e1,sn_end (e3 ho) (by simp) (by rw [lZ]) (by rw [lZ]; exact hi) (by rw [lZ]; exact hr y hy _ hwy.1.2),lZ,u5,e2]
     show p++[(⟨⟨y.iv.lo,y.iv.hi,y.iv.openLo,false⟩,y.f⟩:U α)]=_
     rw [← ho]
   cases hol:y.iv.openLo with
   | false =>
    have ea:atU y=ptU y.iv.lo y.f::xx y.iv.lo y.iv.hi y.f::(bif y.iv.openHi then [] else [ptU y.iv.hi y.f]):=by
     unfold atU; rw [hol,hini]; rfl
    have hl2:(atU y).length=2+(bif y.iv.openHi then 0 else 1):=by rw [ea]; cases y.iv.openHi <;> rfl
    have hx0:gt L (c+0)=ptU y.iv.lo y.f:=by rw [hgt 0 (by rw [hl2]; omega),ea]; rfl
    have hx1:gt L (c+1)=xx y.iv.lo y.iv.hi y.f:=by rw [hgt 1 (by rw [hl2]; omega),ea]; rfl
    rw [hl2]
    have st1:ig (gy eqf same red L) [] (c+1)=p:=by
     show gy eqf same red L (ig _ [] c) (c+0)=_
     rw [hp]
     exact sn_left hx0 (fun a1 a2 a3=>(hpf a1 a2 a3 hol).2) (by rw [hl2] at hlen; omega) (by show (gt L (c+1)).iv.lo=_; rw [hx1]; rfl) (by show same (gt L (c+1)).f _ _=true; rw [hx1]; exact hr y hy _ hwy.1.1)
    refine hE 2 [] false ?_ hol.symm (fun e=>by rw [hgt 2 (by rw [hl2,e]; decide),ea,e]; rfl)
    show ig _ [] (c+(1+1))=_
    rw [hI 1,st1]
    refine sn_gap hx1 hi (fun a1 a2 a3 a4=>by have:=(hpf a1 a2 a3 hol).1; rw [this] at a4; cases a4) true ⟨fun _=>⟨by omega,?_,?_,?_⟩,fun _=>rfl⟩
    · rw [Nat.add_sub_cancel]; show (gt L (c+0)).iv.lo=(gt L (c+0)).iv.hi; rw [hx0]; rfl
    · rw [Nat.add_sub_cancel]; show (gt L (c+0)).iv.lo=_; rw [hx0]; rfl
    · cases hh:o6 p y.iv.lo with
      | false=>rfl
      | true =>
       obtain ⟨b1,b2,b3⟩:=ma.1 hh
       obtain ⟨_,a2,_⟩:=hprev b1
       unfold kj io at a2
       rw [b3,b2,hol] at a2
       simp at a2
   | true =>
    have ea:atU y=xx y.iv.lo y.iv.hi y.f::(bif y.iv.openHi then [] else [ptU y.iv.hi y.f]):=by
     unfold atU; rw [hol,hini]; rfl
    have hl2:(atU y).length=1+(bif y.iv.openHi then 0 else 1):=by rw [ea]; cases y.iv.openHi <;> rfl
    have hx0:gt L (c+0)=xx y.iv.lo y.iv.hi y.f:=by rw [hgt 0 (by rw [hl2]; omega),ea]; rfl
    rw [hl2]
    refine hE 1 [] true ?_ hol.symm (fun e=>by rw [hgt 1 (by rw [hl2,e]; decide),ea,e]; rfl)
    show ig _ [] (c+(0+1))=_
    rw [hI 0]
    show gy eqf same red L (ig _ [] c) (c+0)=_
    rw [hp]
    refine sn_gap hx0 hi (fun a1 a2 a3 a4=>(((hprev a1).2.2 a2).2 a3).1 a4) false ⟨fun e=>(by cases e),fun ⟨a1,a2,a3,a4⟩=>?_⟩
    rw [Nat.add_zero] at a2 a3
    obtain ⟨b1,b2,b3⟩:=hat (by omega)
    by_cases e:(lst p).iv.lo≠(lst p).iv.hi∧(lst p).iv.openHi=true
    · rw [b2 e.1 e.2] at a2
      exact absurd a2 e.1
    · have e':(lst p).iv.lo=(lst p).iv.hi∨(lst p).iv.openHi=false:=by
       by_cases e1:(lst p).iv.lo=(lst p).iv.hi
       · exact .inl e1
       · cases e2:(lst p).iv.openHi with
         | false=>exact .inr rfl
         | true=>exact absurd ⟨e1,e2⟩ e
      rw [b3 e'] at a3
      have a3:(lst p).iv.hi=y.iv.lo:=a3
      have hoh:(lst p).iv.openHi=false:=by
       rcases e' with e1 | e1
       · exact ((h.wv _ (hprev b1).1).2.2 (by rw [e1])).2
       · exact e1
      rw [ma.2 ⟨b1,a3,hoh⟩] at a4
      cases a4
end
end Go.Sx
namespace Go.Sx
section
variable {α:Type} [Inhabited α] {eqf:α→α→Bool} {same:α→α→GR→Bool} {red:α→GR→α} {A:List (At α)} {out:List (U α)} {i:Nat}
structure Ru [K:Key] (D:α→Prop) (same:α→α→GR→Bool) (red:α→GR→α):Prop where
 refl:∀ t,Tm t→∀ f,D f→same f f t=true
 symm:∀ t,Tm t→∀ f g,D f→D g→same f g t=true→same g f t=true
 trans:∀ t,Tm t→∀ f g h,D f→D g→D h→same f g t=true→same g h t=true→same f h t=true
 redD:∀ t,Tm t→∀ f,D f→D (red f t)
 redS:∀ t,Tm t→∀ f,D f→same (red f t) f t=true
 redR:∀ t,Tm t→∀ f,D f→red (red f t) t=red f t
theorem NF.snoc [K:Key] (h:NF eqf same red out) {y:U α} (hy:Wv y.iv) (hl:0 < out.length→kj (lst out).iv < (io y.iv:Int)∧Lk eqf same (lst out) y) (hi:y.iv.lo=y.iv.hi→red y.f y.iv.lo=y.f):NF eqf same red (out++[y]):=by
 refine ⟨fun x hx=>?_,?_,fun j hj=>?_,fun x hx=>?_⟩
 · rcases List.mem_append.1 hx with hx | hx
   · exact h.wv x hx
   · rw [List.mem_singleton.1 hx]; exact hy
 · rw [List.pairwise_append]
   refine ⟨h.ord,List.pairwise_singleton _ _,fun a ha b hb=>?_⟩
   rw [List.mem_singleton.1 hb]
   have h0:0 < out.length:=List.length_pos_of_mem ha
   obtain ⟨k1,_⟩:=hl h0
   obtain ⟨q,hq⟩:=List.getElem_of_mem ha
   obtain ⟨hq1,hq2⟩:=hq
   by_cases e:q=out.length - 1
   · have:a=lst out:=by
      unfold lst
      rw [gU (by omega)]
      subst e
      exact hq2.symm
     rw [this]; exact k1
   · have:=List.pairwise_iff_getElem.1 h.ord q (out.length - 1) hq1 (by omega) (by omega)
     rw [hq2] at this
     have e2:out[out.length - 1]'(by omega)=lst out:=by unfold lst; rw [gU (by omega)]
     rw [e2] at this
     have:=(h.wv _ (pY h0)).le
     omega
 · rw [List.length_append,List.length_singleton] at hj
   by_cases e:j+1 < out.length
   · rw [ii (by omega),ii e]; exact h.lk j e
   · have e1:j+1=out.length:=by omega
     rw [ii (by omega),e1,rT]
     have:=(hl (by omega)).2
     unfold lst at this
     rwa [show out.length - 1=j by omega] at this
 · rcases List.mem_append.1 hx with hx | hx
   · exact h.inst x hx
   · rw [List.mem_singleton.1 hx]; exact hi
theorem NF.setl [K:Key] (h:NF eqf same red out) (h0:0 < out.length) {T:GR} {o:Bool} (hT:Tm T) (hlt:tk (lst out).iv.lo < tk T):NF eqf same red (out.set (out.length - 1) ⟨⟨(lst out).iv.lo,T,(lst out).iv.openLo,o⟩,(lst out).f⟩):=by
 obtain ⟨q,z,rfl⟩:∃ q z,out=q++[z]:=⟨out.dropLast,out.getLast (by intro e; rw [e] at h0; simp at h0),(List.dropLast_concat_getLast _).symm⟩
 rw [lZ] at hlt ⊢
 rw [u5]
 have hz:=h.wv z (by simp)
 have hq:NF eqf same red q:=by
  have ho:=h.ord
  rw [List.pairwise_append] at ho
  refine ⟨fun x hx=>h.wv x (List.mem_append_left _ hx),ho.1,fun j hj=>?_,fun x hx=>h.inst x (List.mem_append_left _ hx)⟩
  have:=h.lk j (by simp; omega)
  rwa [ii (by omega),ii hj] at this
 refine hq.snoc ⟨⟨hz.1.1,hT⟩,Nat.le_of_lt hlt,fun e=>?_⟩ (fun hq0=>?_) fun e=>?_
 · have e:tk z.iv.lo=tk T:=e
   omega
 · have ho:=h.ord
   rw [List.pairwise_append] at ho
   refine ⟨ho.2.2 _ (pY hq0) z (by simp),?_⟩
   have:=h.lk (q.length - 1) (by simp; omega)
   rw [ii (by omega),show q.length - 1+1=q.length by omega,rT] at this
   exact this
 · have e:z.iv.lo=T:=e
   rw [e] at hlt; omega
theorem b_pt (hg:(gt A i).gap=false) (hp:(gt A i).til=(gt A i).frm) (hh:(gt A i).has=true) :
 (mgd same A i→fA eqf same red A out i=out.set (out.length - 1) ⟨⟨(lst out).iv.lo,(lst out).iv.hi,(lst out).iv.openLo,false⟩,(lst out).f⟩) ∧
 (¬ mgd same A i→lft same A i→fA eqf same red A out i=out) ∧
 (¬ mgd same A i→¬ lft same A i→fA eqf same red A out i=out++[⟨⟨(gt A i).frm,(gt A i).frm,false,false⟩,red (gt A i).f (gt A i).frm⟩]):=by
 have hmb:¬ mgd same A i→((decide (((i:Nat):Int)>0) && (gt A (i - 1)).has) && same (gt A (i - 1)).f (gt A i).f (gt A i).frm)=false:=fun m=>by
  cases hq:((decide (((i:Nat):Int)>0) && (gt A (i - 1)).has) && same (gt A (i - 1)).f (gt A i).f (gt A i).frm) with
  | false=>rfl
  | true =>
   simp only [Bool.and_eq_true,decide_eq_true_eq] at hq
   exact absurd ⟨hh,by omega,hq.1.2,hq.2⟩ m
 refine ⟨fun ⟨_,m2,m3,m4⟩=>?_,fun m l=>?_,fun m l=>?_⟩
 · unfold fA
   rw [hh,Bool.not_true,cond_false,hg,cond_false,decide_eq_true (by omega:((i:Nat):Int)>0),m3,m4,Bool.and_self,Bool.and_self,cond_true]
   rfl
 · unfold fA
   rw [hh,Bool.not_true,cond_false,hg,cond_false,hmb m,cond_false,decide_eq_true (by have:=l.1; omega:((i+1:Nat):Int) < ((A.length:Nat):Int)),l.2.1,l.2.2]
   rfl
 · have hlb:(decide (((i+1:Nat):Int) < ((A.length:Nat):Int)) && (gt A (i+1)).has && same (gt A (i+1)).f (gt A i).f (gt A i).frm)=false:=by
    cases hq:(decide (((i+1:Nat):Int) < ((A.length:Nat):Int)) && (gt A (i+1)).has && same (gt A (i+1)).f (gt A i).f (gt A i).frm) with
    | false=>rfl
    | true =>
     simp only [Bool.and_eq_true,decide_eq_true_eq] at hq
     exact absurd ⟨by omega,hq.1.2,hq.2⟩ l
   unfold fA
   rw [hh,Bool.not_true,cond_false,hg,cond_false,hmb m,cond_false,hlb,hp]
   rfl
theorem b_gap (hg:(gt A (i+1)).gap=true) (hf:(gt A (i+1)).frm=(gt A i).frm) (hh:(gt A (i+1)).has=true) :
 (mgd same A i→eqf (gt A (i - 1)).f (gt A (i+1)).f=true→fA eqf same red A out (i+1)=out.set (out.length - 1) ⟨⟨(lst out).iv.lo,(gt A (i+1)).til,(lst out).iv.openLo,true⟩,(lst out).f⟩) ∧
 (mgd same A i→eqf (gt A (i - 1)).f (gt A (i+1)).f=false→fA eqf same red A out (i+1)=out++[⟨⟨(gt A i).frm,(gt A (i+1)).til,true,true⟩,(gt A (i+1)).f⟩]) ∧
 (¬ mgd same A i→fA eqf same red A out (i+1)=out++[⟨⟨(gt A i).frm,(gt A (i+1)).til,!((gt A i).has && same (gt A (i+1)).f (gt A i).f (gt A i).frm),true⟩,(gt A (i+1)).f⟩]):=by
 have hi2:(decide (((i+1:Nat):Int)≥2))=decide (0 < i):=decide_eq_decide.2 (by omega)
 refine ⟨fun ⟨m1,m2,m3,m4⟩ hq=>?_,fun ⟨m1,m2,m3,m4⟩ hq=>?_,fun m=>?_⟩
 · unfold fA
   rw [hh,Bool.not_true,cond_false,hg,cond_true,hi2,decide_eq_true m2,show i+1 - 2=i - 1 by omega,Nat.add_sub_cancel,m3,m1,hf,m4,hq]
   rfl
 · unfold fA
   rw [hh,Bool.not_true,cond_false,hg,cond_true,hi2,decide_eq_true m2,show i+1 - 2=i - 1 by omega,Nat.add_sub_cancel,m3,m1,hf,m4,hq]
   simp
 · have hmb:((((decide (((i+1:Nat):Int)≥2)) && (gt A (i+1 - 2)).has) && (gt A (i+1 - 1)).has) && same (gt A (i+1 - 2)).f (gt A (i+1 - 1)).f (gt A (i+1)).frm)=false:=by
    cases hq:((((decide (((i+1:Nat):Int)≥2)) && (gt A (i+1 - 2)).has) && (gt A (i+1 - 1)).has) && same (gt A (i+1 - 2)).f (gt A (i+1 - 1)).f (gt A (i+1)).frm) with
    | false=>rfl
    | true =>
     rw [hi2,show i+1 - 2=i - 1 by omega,Nat.add_sub_cancel,hf] at hq
     simp only [Bool.and_eq_true,decide_eq_true_eq] at hq
     exact absurd ⟨hq.1.2,hq.1.1.1,hq.1.1.2,hq.2⟩ m
   unfold fA
   rw [hh,Bool.not_true,cond_false,hg,cond_true,hmb,Bool.false_and,cond_false]
   cases hp:(gt A (i+1 - 1)).has with
   | false=>rw [show (gt A i).has=false from hp,hf]; simp
   | true =>
    rw [hp,Bool.and_true] at hmb
    rw [hmb,show (gt A i).has=true from hp,hf]; simp
omit [Inhabited α] in
theorem vw {y z:U α} (h:z∈out.set (out.length - 1) y):z∈out∨z=y:=List.mem_or_eq_of_mem_set h
theorem vt [K:Key] {D:α→Prop} (R:Ru D same red) (heq:∀ a b,eqf a b=true→a=b) (hA:Turns tk A) (hT:∀ i,i < A.length→Tm (gt A i).frm∧Tm (gt A i).til) (hD:∀ i,i < A.length→(gt A i).has=true→D (gt A i).f) :
 ∀ i,i≤A.length→NF eqf same red (ig (fA eqf same red A) [] i)∧∀ x∈ig (fA eqf same red A) [] i,D x.f
 | 0,_=>⟨⟨fun _ h=>(by cases h),List.Pairwise.nil,fun i h=>absurd h (Nat.not_lt_zero _),fun _ h=>(by cases h)⟩,fun _ h=>by cases h⟩
 | i+1,hi=>by
  obtain ⟨hN,hDo⟩:=vt R heq hA hT hD i (by omega)
  obtain ⟨_,hE,hO⟩:=tj (same:=same) (red:=red) heq hA i (by omega)
  show NF eqf same red (fA eqf same red A (ig (fA eqf same red A) [] i) i)∧∀ x∈fA eqf same red A (ig (fA eqf same red A) [] i) i,D x.f
  generalize ig (fA eqf same red A) [] i=out at *
  have hlD:0 < out.length→D (lst out).f:=fun h0=>hDo _ (pY h0)
  cases hh:(gt A i).has with
  | false =>
   have:fA eqf same red A out i=out:=by unfold fA; rw [hh]; rfl
   rw [this]; exact ⟨hN,hDo⟩
  | true =>
   have hDi:=hD i hi hh
   rcases Nat.mod_two_eq_zero_or_one i with he | ho
   · 
    have hE:=hE he
    have hg:=hA.even hi he
    have hp:=hA.pt i hi hg
    have hTi:=(hT i hi).1
    obtain ⟨b1,b2,b3⟩:=b_pt (eqf:=eqf) (same:=same) (red:=red) (out:=out) hg hp hh
    by_cases m:mgd same A i
    · obtain ⟨m1,m2,m3,m4⟩:=m
      obtain ⟨a1,a2,a3,a4,a5⟩:=hE.1 ⟨m2,m3⟩
      rw [b1 ⟨m1,m2,m3,m4⟩]
      refine ⟨hN.setl a1 (by rw [a2]; exact (hT (i - 1) (by omega)).2) a4,fun x hx=>?_⟩
      rcases vw hx with hx | rfl
      · exact hDo x hx
      · exact hlD a1
    · by_cases l:lft same A i
      · rw [b2 m l]; exact ⟨hN,hDo⟩
      · rw [b3 m l]
        refine ⟨hN.snoc ⟨⟨hTi,hTi⟩,Nat.le_refl _,fun _=>⟨rfl,rfl⟩⟩ (fun h0=>?_) (fun _=>R.redR _ hTi _ hDi),fun x hx=>?_⟩
        · have hf2:io (⟨(gt A i).frm,(gt A i).frm,false,false⟩:Iv)=2*tk (gt A i).frm:=by unfold io; simp
          by_cases c:0 < i∧(gt A (i - 1)).has=true
          · obtain ⟨a1,a2,a3,a4,a5⟩:=hE.1 c
            have ea:=hA.adj (i - 1) (by omega)
            rw [show i - 1+1=i by omega] at ea
            rw [← ea] at a2
            refine ⟨?_,fun e=>⟨fun e2=>?_,fun e2=>⟨fun e3=>?_,fun _ _=>?_⟩⟩⟩
            · rw [hf2]; unfold kj; rw [a3,a2,cond_true]; omega
            · rw [e2] at a4; omega
            · rw [a3] at e3; cases e3
            · show same (lst out).f (red (gt A i).f (gt A i).frm) (gt A i).frm=false
              cases hs:same (lst out).f (red (gt A i).f (gt A i).frm) (gt A i).frm with
              | false=>rfl
              | true =>
               have:=R.trans _ hTi _ _ _ (hlD h0) (R.redD _ hTi _ hDi) hDi hs (R.redS _ hTi _ hDi)
               rw [a5] at this
               exact absurd ⟨hh,c.1,c.2,this⟩ m
          · rcases hE.2 c with h1 | ⟨h1,h2⟩
            · omega
            · have q1:=hA.lt (i - 1) (by omega) (hA.odd (by omega) (by omega))
              have q2:=hA.adj (i - 1) (by omega)
              rw [show i - 1+1=i by omega] at q2
              rw [← q2] at q1
              have:=yM (lst out).iv
              refine ⟨by rw [hf2]; omega,fun e=>?_⟩
              have e:(lst out).iv.hi=(gt A i).frm:=e
              rw [e] at h2; omega
        · rcases List.mem_append.1 hx with hx | hx
          · exact hDo x hx
          · rw [List.mem_singleton.1 hx]; exact R.redD _ hTi _ hDi
   · 
    obtain ⟨i,rfl⟩:∃ j,i=j+1:=⟨i - 1,by omega⟩
    have hO:=hO ho
    rw [Nat.add_sub_cancel] at hO
    have hg:=hA.odd (by omega:i+1 < A.length) ho
    have hgp:=hA.even (by omega:i < A.length) (by omega)
    have hpp:=hA.pt i (by omega) hgp
    have ea:=hA.adj i (by omega)
    rw [hpp] at ea
    have hlt:=hA.lt (i+1) (by omega) hg
    rw [ea] at hlt
    have hTi:=(hT i (by omega)).1
    have hTt:=(hT (i+1) (by omega)).2
    have hwv:∀ b:Bool,Wv (⟨(gt A i).frm,(gt A (i+1)).til,b,true⟩:Iv):=fun b=>⟨⟨hTi,hTt⟩,Nat.le_of_lt hlt,fun e=>by have e:tk (gt A i).frm=tk (gt A (i+1)).til:=e; omega⟩
    have hni:(gt A i).frm=(gt A (i+1)).til→red (gt A (i+1)).f (gt A i).frm=(gt A (i+1)).f:=fun e=>by rw [e] at hlt; omega
    obtain ⟨b1,b2,b3⟩:=b_gap (eqf:=eqf) (same:=same) (red:=red) (out:=out) hg ea hh
    have hmem:∀ b:Bool,∀ x∈out++[(⟨⟨(gt A i).frm,(gt A (i+1)).til,b,true⟩,(gt A (i+1)).f⟩:U α)],D x.f:=fun b x hx=>by
     rcases List.mem_append.1 hx with hx | hx
     · exact hDo x hx
     · rw [List.mem_singleton.1 hx]; exact hDi
    have hlb:=yM (lst out).iv
    by_cases m:mgd same A i
    · obtain ⟨a1,a2,a3,a4,a5⟩:=hO.1 m
      cases hq:eqf (gt A (i - 1)).f (gt A (i+1)).f with
      | true =>
       rw [b1 m hq]
       refine ⟨hN.setl a1 hTt (by rw [a2] at a4; omega),fun x hx=>?_⟩
       rcases vw hx with hx | rfl
       · exact hDo x hx
       · exact hlD a1
      | false =>
       rw [b2 m hq]
       refine ⟨hN.snoc (hwv true) (fun h0=>⟨?_,fun e=>⟨fun e2=>?_,fun e2=>⟨fun _=>?_,fun e3=>?_⟩⟩⟩) hni,hmem true⟩
       · unfold kj io; rw [a3,a2]; simp <;> omega
       · rw [e2] at a4; omega
       · show eqf (lst out).f (gt A (i+1)).f=false
         rw [a5]; exact hq
       · rw [a3] at e3; cases e3
    · rw [b3 m]
      by_cases c:(gt A i).has=false∨lft same A i
      · have hE:=hO.2.1 m c
        have hle:=hE.le hA (by omega:i < A.length)
        cases hpb:((gt A i).has && same (gt A (i+1)).f (gt A i).f (gt A i).frm) with
        | false =>
         refine ⟨hN.snoc (hwv _) (fun h0=>?_) hni,hmem _⟩
         have hle:tk (lst out).iv.hi≤tk (gt A i).frm:=hle.resolve_left (by omega)
         refine ⟨by unfold io; simp only [Bool.not_false,cond_true]; omega,fun e=>⟨fun e2=>?_,fun e2=>⟨fun e3=>?_,fun _ e3=>(by cases e3)⟩⟩⟩
         · by_cases c2:0 < i∧(gt A (i - 1)).has=true
           · have:=(hE.1 c2).2.2.2.1
             rw [e2] at this; omega
           · rcases hE.2 c2 with h1 | ⟨h1,h2⟩
             · omega
             · have q1:=hA.lt (i - 1) (by omega) (hA.odd (by omega) (by omega))
               have q2:=hA.adj (i - 1) (by omega)
               rw [show i - 1+1=i by omega] at q2
               rw [← q2] at q1
               have e:(lst out).iv.hi=(gt A i).frm:=e
               rw [e] at h2; omega
         · by_cases c2:0 < i∧(gt A (i - 1)).has=true
           · rw [(hE.1 c2).2.2.1] at e3; cases e3
           · rcases hE.2 c2 with h1 | ⟨h1,h2⟩
             · omega
             · have q1:=hA.lt (i - 1) (by omega) (hA.odd (by omega) (by omega))
               have q2:=hA.adj (i - 1) (by omega)
               rw [show i - 1+1=i by omega] at q2
               rw [← q2] at q1
               have e:(lst out).iv.hi=(gt A i).frm:=e
               rw [e] at h2; omega
        | true =>
         rw [Bool.and_eq_true] at hpb
         have hDp:=hD i (by omega) hpb.1
         refine ⟨hN.snoc (hwv _) (fun h0=>?_) hni,hmem _⟩
         have hf2:io (⟨(gt A i).frm,(gt A (i+1)).til,!true,true⟩:Iv)=2*tk (gt A i).frm:=by unfold io; simp
         by_cases c2:0 < i∧(gt A (i - 1)).has=true
         · obtain ⟨a1,a2,a3,a4,a5⟩:=hE.1 c2
           have q2:=hA.adj (i - 1) (by omega)
           rw [show i - 1+1=i by omega] at q2
           rw [← q2] at a2
           refine ⟨by rw [hf2]; unfold kj; rw [a3,a2,cond_true]; omega,fun e=>⟨fun e2=>?_,fun e2=>⟨fun e3=>?_,fun _ _=>?_⟩⟩⟩
           · rw [e2] at a4; omega
           · rw [a3] at e3; cases e3
           · show same (lst out).f (gt A (i+1)).f (gt A i).frm=false
             cases hs:same (lst out).f (gt A (i+1)).f (gt A i).frm with
             | false=>rfl
             | true =>
              have:=R.trans _ hTi _ _ _ (hlD h0) hDi hDp hs hpb.2
              rw [a5] at this
              exact absurd ⟨hpb.1,c2.1,c2.2,this⟩ m
         · rcases hE.2 c2 with h1 | ⟨h1,h2⟩
           · omega
           · have q1:=hA.lt (i - 1) (by omega) (hA.odd (by omega) (by omega))
             have q2:=hA.adj (i - 1) (by omega)
             rw [show i - 1+1=i by omega] at q2
             rw [← q2] at q1
             refine ⟨by rw [hf2]; omega,fun e=>?_⟩
             have e:(lst out).iv.hi=(gt A i).frm:=e
             rw [e] at h2; omega
      · have hpi:(gt A i).has=true:=by cases hx:(gt A i).has with
         | true=>rfl
         | false=>exact absurd (.inl hx) c
        have hnl:¬ lft same A i:=fun l=>c (.inr l)
        have hDp:=hD i (by omega) hpi
        obtain ⟨k1,k2,k3,k4,k5⟩:=hO.2.2 m hpi hnl
        have hsf:same (gt A (i+1)).f (gt A i).f (gt A i).frm=false:=by
         cases hs:same (gt A (i+1)).f (gt A i).f (gt A i).frm with
         | false=>rfl
         | true=>exact absurd ⟨by omega,hh,hs⟩ hnl
        rw [hsf,Bool.and_false]
        refine ⟨hN.snoc (hwv _) (fun h0=>⟨?_,fun e=>⟨fun _=>?_,fun e2=>absurd (k2.trans k3.symm) e2⟩⟩) hni,hmem _⟩
        · unfold kj io; rw [k4,k3]; simp <;> omega
        · show same (gt A (i+1)).f (lst out).f (gt A i).frm=false
          cases hs:same (gt A (i+1)).f (lst out).f (gt A i).frm with
          | false=>rfl
          | true =>
           rw [k5] at hs
           have:=R.trans _ hTi _ _ _ hDi (R.redD _ hTi _ hDp) hDp hs (R.redS _ hTi _ hDp)
           rw [this] at hsf; cases hsf
end
end Go.Sx
namespace Go.Sx
def Bq (m:Nat) (q:GQ):Prop:=QOk q∧∃ (a:Int) (b:Nat),0 < b∧b < 2 ^ m∧a.natAbs < 2 ^ m∧cK q=(a:Rat) / (b:Rat)
theorem kq {b:Nat} (h:0 < b):(b:Rat)≠0:=by
 have:((b:Nat):Rat)≠((0:Nat):Rat):=fun e=>by rw [Rat.natCast_inj] at e; omega
 exact this
theorem Bq.mag {m:Nat} {q:GQ} (h:Bq m q):q.num.mag < 2 ^ m∧q.den.mag < 2 ^ m:=by
 obtain ⟨hq,a,b,b0,b1,a1,e⟩:=h
 have hp:=hq.pos
 have hc:=hq.2.2
 have e2:fL q.num*(b:Int)=a*(jy q:Int):=by
  have h1:=kq b0
  have h2:=kq hp
  have:(fL q.num:Rat)*(b:Rat)=(a:Rat)*(jy q:Rat):=by
   unfold cK at e; grind
  exact_mod_cast this
 have e3:q.num.mag*b=a.natAbs*jy q:=by
  have:=congrArg Int.natAbs e2
  rw [Int.natAbs_mul,Int.natAbs_mul,ie] at this
  simpa using this
 have d1:jy q ∣ b:=Nat.Coprime.dvd_of_dvd_mul_left hc.symm (m:=q.num.mag) ⟨a.natAbs,by rw [e3,Nat.mul_comm]⟩
 have d2:q.num.mag ∣ a.natAbs:=Nat.Coprime.dvd_of_dvd_mul_right hc (n:=jy q) ⟨b,by rw [← e3]⟩
 constructor
 · rcases Nat.eq_zero_or_pos a.natAbs with h | h
   · rw [h,Nat.zero_mul] at e3
     rcases Nat.mul_eq_zero.1 e3 with h | h
     · rw [h]; exact Nat.pow_pos (by decide)
     · omega
   · exact Nat.lt_of_le_of_lt (Nat.le_of_dvd h d2) a1
 · have h1:=Nat.le_of_dvd b0 d1
   unfold jy at h1
   split at h1
   · rename_i h; rw [h]; exact Nat.pow_pos (by decide)
   · omega
theorem Bq.le {m n:Nat} {q:GQ} (h:Bq m q) (hn:m≤n):Bq n q:=by
 obtain ⟨hq,a,b,b0,b1,a1,e⟩:=h
 have:=Nat.pow_le_pow_right (show 0 < 2 by decide) hn
 exact ⟨hq,a,b,b0,by omega,by omega,e⟩
theorem Bq.sz {m:Nat} {q:GQ} (h:Bq m q) (hm:m≤240):SzQ 40 q:=by
 have h2:=(h.le hm).mag
 have e:(2:Nat) ^ 240=256 ^ 30:=by rw [show (256:Nat)=2 ^ 8 from rfl,← Nat.pow_mul]
 rw [e] at h2
 have:=(cS 30 _).2 h2.1
 have:=(cS 30 _).2 h2.2
 constructor
 · show SzB 40 _; unfold SzB; omega
 · show SzB 40 _; unfold SzB; omega
theorem Bq.of {q:GQ} (hq:QOk q) {m:Nat} (a:Int) (b:Nat) (b0:0 < b) (b1:b < 2 ^ m) (a1:a.natAbs < 2 ^ m) (e:cK q=(a:Rat) / (b:Rat)):Bq m q:=⟨hq,a,b,b0,b1,a1,e⟩
theorem Bq.self {q:GQ} (hq:QOk q) {m:Nat} (h1:q.num.mag < 2 ^ m) (h2:jy q < 2 ^ m):Bq m q:=⟨hq,fL q.num,jy q,hq.pos,h2,by rw [ie]; exact h1,rfl⟩
theorem pw (m n:Nat):2 ^ (m+n)=2 ^ m*2 ^ n:=Nat.pow_add 2 m n
theorem Bq.add {m n:Nat} {p q:GQ} (hp:Bq m p) (hq:Bq n q):Bq (m+n+1) (aB p q):=by
 obtain ⟨op,a,b,b0,b1,a1,e⟩:=hp
 obtain ⟨oq,c,d,d0,d1,c1,f⟩:=hq
 obtain ⟨o,v⟩:=jC op oq
 have h1:a.natAbs*d≤2 ^ m*2 ^ n:=Nat.mul_le_mul (Nat.le_of_lt a1) (Nat.le_of_lt d1)
 have h2:c.natAbs*b < 2 ^ m*2 ^ n:=by
  rw [Nat.mul_comm (2 ^ m)]
  exact Nat.lt_of_lt_of_le (Nat.mul_lt_mul_of_pos_right c1 b0) (Nat.mul_le_mul_left _ (Nat.le_of_lt b1))
 refine ⟨o,a*d+c*b,b*d,Nat.mul_pos b0 d0,?_,?_,?_⟩
 · rw [Nat.pow_succ,pw]
   have:=Nat.mul_lt_mul_of_lt_of_le b1 (Nat.le_of_lt d1) (Nat.pow_pos (n:=n) (show 0 < 2 by decide))
   omega
 · rw [Nat.pow_succ,pw]
   have:=Int.natAbs_add_le (a*d) (c*b)
   rw [Int.natAbs_mul,Int.natAbs_mul] at this
   simp only [Int.natAbs_natCast] at this
   omega
 · rw [v,e,f]
   have h1:=kq b0
   have h2:=kq d0
   push_cast
   grind
theorem Bq.mul {m n:Nat} {p q:GQ} (hp:Bq m p) (hq:Bq n q):Bq (m+n) (aj p q):=by
 obtain ⟨op,a,b,b0,b1,a1,e⟩:=hp
 obtain ⟨oq,c,d,d0,d1,c1,f⟩:=hq
 obtain ⟨o,v⟩:=gp op oq
 have hN:=Nat.pow_pos (n:=n) (show 0 < 2 by decide)
 refine ⟨o,a*c,b*d,Nat.mul_pos b0 d0,?_,?_,?_⟩
 · rw [pw]; exact Nat.mul_lt_mul_of_lt_of_le b1 (Nat.le_of_lt d1) hN
 · rw [pw,Int.natAbs_mul]; exact Nat.mul_lt_mul_of_lt_of_le a1 (Nat.le_of_lt c1) hN
 · rw [v,e,f]
   have h1:=kq b0
   have h2:=kq d0
   push_cast
   grind
theorem Bq.neg {m:Nat} {p:GQ} (hp:Bq m p):Bq m (aM p):=by
 obtain ⟨op,a,b,b0,b1,a1,e⟩:=hp
 obtain ⟨o,v⟩:=yD op
 refine ⟨o,-a,b,b0,b1,by omega,?_⟩
 rw [v,e]
 have h1:=kq b0
 push_cast
 grind
theorem sub_is (p q:GQ):ao p q=aB p (aM q):=by unfold ao; rfl
theorem Bq.sub {m n:Nat} {p q:GQ} (hp:Bq m p) (hq:Bq n q):Bq (m+n+1) (ao p q):=by
 rw [sub_is]; exact hp.add hq.neg
theorem Bq.int {m:Nat} (n:Int) (h:n.natAbs < 2 ^ m) (hm:0 < m):Bq m (ak n):=by
 obtain ⟨o,v⟩:=kR n
 refine ⟨o,n,1,by decide,Nat.one_lt_two_pow (by omega),h,?_⟩
 rw [v]; show (n:Rat)=(n:Rat) / ((1:Nat):Rat); rw [show ((1:Nat):Rat)=1 from rfl]; grind
theorem Bq.zero {m:Nat} (hm:0 < m):Bq m zQ:=Bq.int 0 (Nat.pow_pos (by decide)) hm
def LOk (f:Ln):Prop:=QOk f.x0∧QOk f.x1∧QOk f.y0∧QOk f.y1
def BL (m:Nat) (f:Ln):Prop:=Bq m f.x0∧Bq m f.x1∧Bq m f.y0∧Bq m f.y1
theorem BL.ok {m:Nat} {f:Ln} (h:BL m f):LOk f:=⟨h.1.1,h.2.1.1,h.2.2.1.1,h.2.2.2.1⟩
theorem BL.le {m n:Nat} {f:Ln} (h:BL m f) (hn:m≤n):BL n f:=⟨h.1.le hn,h.2.1.le hn,h.2.2.1.le hn,h.2.2.2.le hn⟩
theorem BL.sz {m:Nat} {f:Ln} (h:BL m f) (hm:m≤240):SzN 40 f:=⟨h.1.sz hm,h.2.1.sz hm,h.2.2.1.sz hm,h.2.2.2.sz hm⟩
def lX (f:Ln):Qd:=be f.x0 f.x1
def lY (f:Ln):Qd:=be f.y0 f.y1
theorem LOk.X {f:Ln} (h:LOk f):DOk (lX f)∧(lX f).c0=f.x0∧(lX f).c1=f.x1∧(lX f).c2=zQ:=pZ h.1 h.2.1
theorem LOk.Y {f:Ln} (h:LOk f):DOk (lY f)∧(lY f).c0=f.y0∧(lY f).c1=f.y1∧(lY f).c2=zQ:=pZ h.2.2.1 h.2.2.2
def DL (m M:Nat) (f:Ln):Prop:=BL m f∨(f.x1=zQ∧f.y1=zQ∧BL M f)
theorem DL.ok {m M:Nat} {f:Ln} (h:DL m M f):LOk f:=by rcases h with h | h; exact h.ok; exact h.2.2.ok
theorem DL.bl {m M:Nat} {f:Ln} (h:DL m M f) (hm:m≤M):BL M f:=by rcases h with h | h; exact h.le hm; exact h.2.2
section
variable [K:Key]
end
end Go.Sx
namespace Go.Sx
open Go Go.RowKit Go.Proofs
set_option maxRecDepth 100000
set_option maxHeartbeats 40000000
attribute [local irreducible] Code.wp wpList Rd Step ObS Ent
attribute [local irreducible] ah ak aq an bN
theorem iJ:SlT Tryz.prog 86 88 32 360 [.bool false,.string ⟨#[]⟩,.bool false,.string ⟨#[]⟩,.bool false,.string ⟨#[]⟩,.bool false,.string ⟨#[]⟩,.bool false,.bool false,.string ⟨#[]⟩,.bool false,.string ⟨#[]⟩,.bool false,.string ⟨#[]⟩,.bool false,.string ⟨#[]⟩,.bool false,.bool false,.bool false,.bool false,.string ⟨#[]⟩,.bool false,.string ⟨#[]⟩,.bool false,.string ⟨#[]⟩,.bool false,.string ⟨#[]⟩,.bool false,.string ⟨#[]⟩,.bool false,.string ⟨#[]⟩]:=⟨nn86,Tryz.t88,_,Tryz.type88,rfl,rfl,rfl,rfl,rfl,by decide,by decide⟩
def bF (f:Qd) (g:Qd):Bool :=
 (decide (f=g))
theorem jz (f:Qd) (g:Qd) (zf:SzD 20 f) (zg:SzD 20 g) (w0:World) :Calls Tryz.prog 403 #[(.agg #[]),(vD f),(vD g)] w0 (dh w0 (.bool (bF f g)) (True)):=by
 refine enter (N:=10) (args:=[(.agg #[]),(vD f),(vD g)]) Tryz.func403 rfl rfl ?_; intro ac h
 refine gz h <| (xb) fun b1=>(xb) fun b2=>(xb) fun b3=>(W) ?_; clear h ac; intro ac wo h
 exact (rt h) (h.retP (by unfold bF; rfl) trivial)
attribute [irreducible] bF
def bc (f:Qd) (g:Qd) (t:GR):Bool :=
 (gH f g t)
theorem it (f:Qd) (g:Qd) (t:GR) (zf:SzD 20 f) (zg:SzD 20 g) (zt:SzR 30 t) (w0:World) :Calls Tryz.prog 405 #[(.agg #[]),(vD f),(vD g),(vR t)] w0 (dh w0 (.bool (bc f g t)) (True)):=by
 refine enter (N:=13) (args:=[(.agg #[]),(vD f),(vD g),(vR t)]) Tryz.func405 rfl rfl ?_; intro ac h
 refine gz h <| (xb) fun b1=>(xb) fun b2=>(xb) fun b3=>(xb) fun b4=>(xk (nV f g t 6 og zf zg (dG zt og))) <| (W) ?_; clear h ac; intro ac wo h
 exact (rt h) (h.retP (by unfold bc; rfl) trivial)
attribute [irreducible] bc
def aO (f:Qd) (t:GR):Qd :=
 (bh f t)
theorem ja (f:Qd) (t:GR) (zf:SzD 30 f) (zt:SzR 30 t) (w0:World) :Calls Tryz.prog 404 #[(.agg #[]),(vD f),(vR t)] w0 (dh w0 (vD (aO f t)) (SzD 20 (aO f t))):=by
 refine enter (N:=10) (args:=[(.agg #[]),(vD f),(vR t)]) Tryz.func404 rfl rfl ?_; intro ac h
 have c1:=iO f t 20 og zf zt
 have s1:=ar (c1 w0)
 refine gz h <| (xb) fun b1=>(xb) fun b2=>(xb) fun b3=>(xa) fun b4=>(xk (c1)) <| (W) ?_; clear h ac; intro ac wo h
 exact ret h rfl (.cell (v:=(vD (bh f t))) rfl (i:=0) rfl Tryz.isAgg72 Tryz.sizeOf72 rfl rfl rfl .nil) rfl (h.retP (by unfold aO; rfl) (by unfold aO; exact s1))
attribute [irreducible] aO
def aS (s:List (U Qd)):(List (U Qd)):=s
theorem fC (s:List (U Qd)) (sv:Value) (hl:s.length≤1000) (zs:All (g6 30) s) (w0:World) (hsv:View w0 sv s):Calls Tryz.prog 245 #[sv] w0 (RetR w0 88 (aS s) (All (g6 30) (aS s)∧(aS s)=s∧(aS s).length=s.length)):=by
 refine enter (N:=8) (args:=[sv]) Tryz.func245 rfl rfl ?_; intro ac h
 have hlens:=hsv.len
 refine gz h <| (xo (hs:=by exact r_eqlSN nn86 hsv.sl rfl)) <| (ai) ?_ ?_ <;> clear h ac <;> intro ac wo h hc1
 ·
  have hq1:=hc1; try simp at hq1
  refine gz h <| (W) ?_; clear h ac wo; intro ac wo h
  replace h:=h.nilRow (α:=U Qd) 88
  have hd:aS s=[]:=(hsv.nil hc1).1
  exact (rt h) (by rw [hd]; exact h.retR 0 rfl ⟨All.nil,⟨(hsv.nil hc1).1.symm,by rw [(hsv.nil hc1).1]⟩⟩)
 ·
  have hq1:=hc1; try simp at hq1
  refine gz h <| (W) ?_; clear h ac wo; intro ac wo h
  refine nw h (bT (α:=U Qd) (xs:=[]) (vs:=[]) [] iJ rfl rfl rfl (by decide)) rfl ?_; clear h ac wo; intro sv2 ac wo nnsv2 h
  refine gz h <| (W) ?_; clear h ac wo; intro ac wo h
  refine on1 h 0 rfl (s_appV (xs:=[]) (ys:=s) iJ hsv rfl rfl og) rfl ?_; clear h ac wo; intro sv3 ac wo apsv3 h
  refine gz h <| (W) ?_; clear h ac wo; intro ac wo h
  exact (rt h) (by unfold aS; exact h.retR 0 rfl ⟨(All.app All.nil zs),⟨rfl,rfl⟩⟩)
attribute [irreducible] aS
def aP (i:Iv):Int :=
 bif i.openLo then
  1
 else
  0
theorem fo (i:Iv) (zi:SzV 30 i) (w0:World) :Calls Tryz.prog 248 #[(vV i)] w0 (dh w0 (.int .i64 (aP i)) ((-1≤(aP i)∧(aP i)≤1))):=by
 refine enter (N:=5) (args:=[(vV i)]) Tryz.func248 rfl rfl ?_; intro ac h
 refine gz h <| (xb) fun b1=>(ai) ?_ ?_ <;> clear h ac <;> intro ac wo h hc1
 ·
  have hq1:=hc1; try simp at hq1
  have hd:aP i=1:=pt
  refine gz h <| (W) ?_; clear h ac wo; intro ac wo h
  exact (rt h) (h.retP (by rw [hd] <;> rfl) (by rw [hd]; exact og))
 ·
  have hq1:=hc1; try simp at hq1
  have hd:aP i=0:=pt
  refine gz h <| (W) ?_; clear h ac wo; intro ac wo h
  exact (rt h) (h.retP (by rw [hd] <;> rfl) (by rw [hd]; exact og))
attribute [irreducible] aP
def eX (l:List (U Qd)) (t:GR):Bool :=
 (((decide (((l.length:Nat):Int)>0)) && (decide (((gt l (l.length - 1)).iv).hi=t))) && (!((gt l (l.length - 1)).iv).openHi))
theorem jV (l:List (U Qd)) (lv:Value) (t:GR) (zl:All (g6 20) l) (zt:SzR 30 t) (w0:World) (hlv:View w0 lv l):Calls Tryz.prog 155 #[lv,(vR t)] w0 (dh w0 (.bool (eX l t)) (True)):=by
 refine enter (N:=31) (args:=[lv,(vR t)]) Tryz.func155 rfl rfl ?_; intro ac h
 have hlenl:=hlv.len
 refine gz h <| (xb) fun b1=>(dr0 (hob:=oE)) <| (W) ?_; clear h ac; intro ac wo h
 exact (rt h) (h.retP (by unfold eX; rfl) trivial)
attribute [irreducible] eX
def ir (l:List (U Qd)) (x10:Nat) (out:List (U Qd)):(List (U Qd)) :=
 out
def dR (l:List (U Qd)) (x10:Nat) (out:List (U Qd)):Nx (Nat×(List (U Qd))) (List (U Qd)) :=
 bif (decide (((x10:Nat):Int) < ((l.length:Nat):Int))) then
  bif (!((gt l x10).iv).openLo) then
   bif (aN ((gt l x10).iv)) then
    .go ((x10+1),(out++[(⟨(⟨((gt l x10).iv).lo,((gt l x10).iv).lo,false,false⟩:Iv),(gt l x10).f⟩:U Qd)]))
   else
    bif (!((gt l x10).iv).openHi) then
     .go ((x10+1),(((out++[(⟨(⟨((gt l x10).iv).lo,((gt l x10).iv).lo,false,false⟩:Iv),(gt l x10).f⟩:U Qd)])++[(⟨(⟨((gt l x10).iv).lo,((gt l x10).iv).hi,true,true⟩:Iv),(gt l x10).f⟩:U Qd)])++[(⟨(⟨((gt l x10).iv).hi,((gt l x10).iv).hi,false,false⟩:Iv),(gt l x10).f⟩:U Qd)]))
    else
     .go ((x10+1),((out++[(⟨(⟨((gt l x10).iv).lo,((gt l x10).iv).lo,false,false⟩:Iv),(gt l x10).f⟩:U Qd)])++[(⟨(⟨((gt l x10).iv).lo,((gt l x10).iv).hi,true,true⟩:Iv),(gt l x10).f⟩:U Qd)]))
  else
   bif (aN ((gt l x10).iv)) then
    .go ((x10+1),out)
   else
    bif (!((gt l x10).iv).openHi) then
     .go ((x10+1),((out++[(⟨(⟨((gt l x10).iv).lo,((gt l x10).iv).hi,true,true⟩:Iv),(gt l x10).f⟩:U Qd)])++[(⟨(⟨((gt l x10).iv).hi,((gt l x10).iv).hi,false,false⟩:Iv),(gt l x10).f⟩:U Qd)]))
    else
     .go ((x10+1),(out++[(⟨(⟨((gt l x10).iv).lo,((gt l x10).iv).hi,true,true⟩:Iv),(gt l x10).f⟩:U Qd)]))
 else
  .out (x10,out)
def ae (l:List (U Qd)):(List (U Qd)) :=
 fin (bZ (fun s=>dR l s.1 s.2) ((l.length - 0)+1) (0,[])) (fun s=>ir l s.1 s.2) (fun r=>r)
theorem jG (l:List (U Qd)) (lv:Value) (hl:l.length≤1000) (zl:All (g6 30) l) (w0:World) (hlv:View w0 lv l):Calls Tryz.prog 153 #[lv] w0 (RetR w0 88 (ae l) (All (g6 30) (ae l)∧(ae l).length≤3*l.length)):=by
 refine enter (N:=54) (args:=[lv]) Tryz.func153 rfl rfl ?_; intro ac h
 have hlenl:=hlv.len
 refine gz h <| (xa) fun b1=>(xo (hs:=by exact qN rfl)) <| (W) ?_; clear h ac; intro ac wo h
 replace h:=h.nilRow (α:=U Qd) 88
 obtain ⟨X1,hX1⟩:∃ X,bZ (fun s=>dR l s.1 s.2) ((l.length - 0)+1) (0,[])=X:=⟨_,rfl⟩
 refine wp_loop_ghost (fun n_ a_ w_=>∃ (x10:Nat) (out:List (U Qd)) (outv:Value),((l.length - x10) < n_)∧(bZ (fun s=>dR l s.1 s.2) n_ (x10,out)=X1)∧(x10≤l.length)∧(All (g6 30) out)∧(out.length≤3*x10)∧St w0 54 [(3,(ptr b1 0)),(4,(.func (.func 250) #[] #[(ptr b1 0)])),(8,lv),(9,(.int .i64 ((l.length:Nat):Int))),(10,(.int .i64 ((x10:Nat):Int)))] [.row (α:=U Qd) 88 outv out,.blk b1 [outv] 86] a_ w_) ((l.length - 0)+1) ⟨0,[],(.slice none 0 0),og,hX1,og,All.nil,og,h.rs⟩ ?_
 clear h ac wo; rintro n1 ac wo ⟨x10,out,outv,hm1,hL1,hx10,zout,hol,h⟩
 obtain ⟨m1,rfl⟩:∃ m,n1=m+1:=⟨n1 - 1,by omega⟩
 refine gz h <| (ai) ?_ ?_ <;> clear h ac wo <;> intro ac wo h hc1
 ·
  have hd1:=of_decide_eq_true hc1
  refine gz h <| (xa) fun b2=>(ai) ?_ ?_ <;> clear h ac wo <;> intro ac wo h hc2
  ·
   have hq2:=hc2; try simp at hq2
   refine gz h <| (W) ?_; clear h ac wo; intro ac wo h
   refine inl (vs:=[(vR (((gt l x10).iv).lo)),(vD ((gt l x10).f)),(ptr b1 0)]) (M:=13) h (uH (vs:=[(vR (((gt l x10).iv).lo)),(vD ((gt l x10).f))]) (cap:=[(ptr b1 0)]) cc250 rfl rfl) Tryz.func250 rfl rfl rfl ?_
   clear h ac; intro R1 hR1 ac h
   refine gz h <| (xb) fun b3=>(xb) fun b4=>(xo (hs:=by exact bX qE exs rfl (v:=(vV (⟨((gt l x10).iv).lo,((gt l x10).iv).lo,false,false⟩:Iv))) rfl)) <| (xo (hs:=by exact bX oS exs rfl (v:=(vUD (⟨(⟨((gt l x10).iv).lo,((gt l x10).iv).lo,false,false⟩:Iv),(gt l x10).f⟩:U Qd))) rfl)) <| ?_; clear h ac wo; intro ac wo h
   refine nw h (bT (α:=U Qd) (xs:=[.tmp 10]) (vs:=[(vUD (⟨(⟨((gt l x10).iv).lo,((gt l x10).iv).lo,false,false⟩:Iv),(gt l x10).f⟩:U Qd))]) [(⟨(⟨((gt l x10).iv).lo,((gt l x10).iv).lo,false,false⟩:Iv),(gt l x10).f⟩:U Qd)] iJ rfl rfl rfl (by decide)) rfl ?_; clear h ac wo; intro sv2 ac wo nnsv2 h
   refine on2 h 4 0 rfl rfl (eA (xs:=out) (ys:=[(⟨(⟨((gt l x10).iv).lo,((gt l x10).iv).lo,false,false⟩:Iv),(gt l x10).f⟩:U Qd)]) iJ (fun w hs=>(row_view hs 0 rfl)) rfl rfl og) rfl ?_; clear h ac wo; intro sv3 ac wo apsv3 h
   refine st h 5 [sv3] rfl zz86 rfl rfl (m7 (h.row_sl 0 rfl)) rfl (sK (h.row_sl 0 rfl)) rfl rfl ?_; clear h ac wo; intro ac wo h
   refine gz h <| (W) ?_; clear h ac wo; intro ac wo h
   refine nO (rs:=[]) (vs:=[]) h rfl .nil rfl (hR1 _ _ _ h.bel h.sep ?_)
   clear h ac hR1; intro ac h
   refine gz h <| (xk (fj ((gt l x10).iv))) <| (ai) ?_ ?_ <;> clear h ac wo <;> intro ac wo h hc3
   ·
    have hq3:=hc3; try simp at hq3
    refine gz h <| (W) ?_; clear h ac wo; intro ac wo h
    have hg:=cZ hL1 pt
    exact az ⟨m1,og,_,_,_,og,hg,og,(All.app zout (All.cons ⟨⟨((All.gt zl (bG _)).1).1,((All.gt zl (bG _)).1).1⟩,(All.gt zl (bG _)).2⟩ All.nil)),og,h.re [0,5]⟩
   ·
    have hq3:=hc3; try simp at hq3
    refine gz h <| (xo (hs:=by exact bX qE exs rfl (v:=(vV (⟨((gt l x10).iv).lo,((gt l x10).iv).hi,true,true⟩:Iv))) rfl)) <| (xo (hs:=by exact bX oS exs rfl (v:=(vUD (⟨(⟨((gt l x10).iv).lo,((gt l x10).iv).hi,true,true⟩:Iv),(gt l x10).f⟩:U Qd))) rfl)) <| ?_; clear h ac wo; intro ac wo h
    refine nw h (bT (α:=U Qd) (xs:=[.tmp 38]) (vs:=[(vUD (⟨(⟨((gt l x10).iv).lo,((gt l x10).iv).hi,true,true⟩:Iv),(gt l x10).f⟩:U Qd))]) [(⟨(⟨((gt l x10).iv).lo,((gt l x10).iv).hi,true,true⟩:Iv),(gt l x10).f⟩:U Qd)] iJ rfl rfl rfl (by decide)) rfl ?_; clear h ac wo; intro sv4 ac wo nnsv4 h
    refine on2 h 1 0 rfl rfl (eA (xs:=(out++[(⟨(⟨((gt l x10).iv).lo,((gt l x10).iv).lo,false,false⟩:Iv),(gt l x10).f⟩:U Qd)])) (ys:=[(⟨(⟨((gt l x10).iv).lo,((gt l x10).iv).hi,true,true⟩:Iv),(gt l x10).f⟩:U Qd)]) iJ (fun w hs=>(row_view hs 0 rfl)) rfl rfl og) rfl ?_; clear h ac wo; intro sv5 ac wo apsv5 h
    refine st h 6 [sv5] rfl zz86 rfl rfl (m7 (h.row_sl 0 rfl)) rfl (sK (h.row_sl 0 rfl)) rfl rfl ?_; clear h ac wo; intro ac wo h
    refine gz h <| (ai) ?_ ?_ <;> clear h ac wo <;> intro ac wo h hc4
    ·
     have hq4:=hc4; try simp at hq4
     refine gz h <| (W) ?_; clear h ac wo; intro ac wo h
     refine inl (vs:=[(vR (((gt l x10).iv).hi)),(vD ((gt l x10).f)),(ptr b1 0)]) (M:=13) h (uH (vs:=[(vR (((gt l x10).iv).hi)),(vD ((gt l x10).f))]) (cap:=[(ptr b1 0)]) cc250 rfl rfl) Tryz.func250 rfl rfl rfl ?_
     clear h ac; intro R2 hR2 ac h
     refine gz h <| (xb) fun b5=>(xb) fun b6=>(xo (hs:=by exact bX qE exs rfl (v:=(vV (⟨((gt l x10).iv).hi,((gt l x10).iv).hi,false,false⟩:Iv))) rfl)) <| (xo (hs:=by exact bX oS exs rfl (v:=(vUD (⟨(⟨((gt l x10).iv).hi,((gt l x10).iv).hi,false,false⟩:Iv),(gt l x10).f⟩:U Qd))) rfl)) <| ?_; clear h ac wo; intro ac wo h
     refine nw h (bT (α:=U Qd) (xs:=[.tmp 10]) (vs:=[(vUD (⟨(⟨((gt l x10).iv).hi,((gt l x10).iv).hi,false,false⟩:Iv),(gt l x10).f⟩:U Qd))]) [(⟨(⟨((gt l x10).iv).hi,((gt l x10).iv).hi,false,false⟩:Iv),(gt l x10).f⟩:U Qd)] iJ rfl rfl rfl (by decide)) rfl ?_; clear h ac wo; intro sv6 ac wo nnsv6 h
     refine on2 h 3 0 rfl rfl (eA (xs:=((out++[(⟨(⟨((gt l x10).iv).lo,((gt l x10).iv).lo,false,false⟩:Iv),(gt l x10).f⟩:U Qd)])++[(⟨(⟨((gt l x10).iv).lo,((gt l x10).iv).hi,true,true⟩:Iv),(gt l x10).f⟩:U Qd)])) (ys:=[(⟨(⟨((gt l x10).iv).hi,((gt l x10).iv).hi,false,false⟩:Iv),(gt l x10).f⟩:U Qd)]) iJ (fun w hs=>(row_view hs 0 rfl)) rfl rfl og) rfl ?_; clear h ac wo; intro sv7 ac wo apsv7 h
     refine st h 9 [sv7] rfl zz86 rfl rfl (m7 (h.row_sl 0 rfl)) rfl (sK (h.row_sl 0 rfl)) rfl rfl ?_; clear h ac wo; intro ac wo h
     refine gz h <| (W) ?_; clear h ac wo; intro ac wo h
     refine nO (rs:=[]) (vs:=[]) h rfl .nil rfl (hR2 _ _ _ h.bel h.sep ?_)
     clear h ac hR2; intro ac h
     refine gz h <| (W) ?_; clear h ac wo; intro ac wo h
     have hg:=cZ hL1 pt
     exact az ⟨m1,og,_,_,_,og,hg,og,(All.app (All.app (All.app zout (All.cons ⟨⟨((All.gt zl (bG _)).1).1,((All.gt zl (bG _)).1).1⟩,(All.gt zl (bG _)).2⟩ All.nil)) (All.cons ⟨⟨((All.gt zl (bG _)).1).1,((All.gt zl (bG _)).1).2⟩,(All.gt zl (bG _)).2⟩ All.nil)) (All.cons ⟨⟨((All.gt zl (bG _)).1).2,((All.gt zl (bG _)).1).2⟩,(All.gt zl (bG _)).2⟩ All.nil)),og,h.re [0,9]⟩
    ·
     have hq4:=hc4; try simp at hq4
     refine gz h <| (W) ?_; clear h ac wo; intro ac wo h
     have hg:=cZ hL1 pt
     exact az ⟨m1,og,_,_,_,og,hg,og,(All.app (All.app zout (All.cons ⟨⟨((All.gt zl (bG _)).1).1,((All.gt zl (bG _)).1).1⟩,(All.gt zl (bG _)).2⟩ All.nil)) (All.cons ⟨⟨((All.gt zl (bG _)).1).1,((All.gt zl (bG _)).1).2⟩,(All.gt zl (bG _)).2⟩ All.nil)),og,h.re [0,6]⟩
  ·
   have hq2:=hc2; try simp at hq2
   refine gz h <| (xk (fj ((gt l x10).iv))) <| (ai) ?_ ?_ <;> clear h ac wo <;> intro ac wo h hc5
   ·
    have hq5:=hc5; try simp at hq5
    refine gz h <| (W) ?_; clear h ac wo; intro ac wo h
    have hg:=cZ hL1 pt
    exact az ⟨m1,og,_,_,_,og,hg,og,zout,og,h.re [1,2]⟩
   ·
    have hq5:=hc5; try simp at hq5
    refine gz h <| (xo (hs:=by exact bX qE exs rfl (v:=(vV (⟨((gt l x10).iv).lo,((gt l x10).iv).hi,true,true⟩:Iv))) rfl)) <| (xo (hs:=by exact bX oS exs rfl (v:=(vUD (⟨(⟨((gt l x10).iv).lo,((gt l x10).iv).hi,true,true⟩:Iv),(gt l x10).f⟩:U Qd))) rfl)) <| ?_; clear h ac wo; intro ac wo h
    refine nw h (bT (α:=U Qd) (xs:=[.tmp 38]) (vs:=[(vUD (⟨(⟨((gt l x10).iv).lo,((gt l x10).iv).hi,true,true⟩:Iv),(gt l x10).f⟩:U Qd))]) [(⟨(⟨((gt l x10).iv).lo,((gt l x10).iv).hi,true,true⟩:Iv),(gt l x10).f⟩:U Qd)] iJ rfl rfl rfl (by decide)) rfl ?_; clear h ac wo; intro sv8 ac wo nnsv8 h
    refine on2 h 2 0 rfl rfl (eA (xs:=out) (ys:=[(⟨(⟨((gt l x10).iv).lo,((gt l x10).iv).hi,true,true⟩:Iv),(gt l x10).f⟩:U Qd)]) iJ (fun w hs=>(row_view hs 0 rfl)) rfl rfl og) rfl ?_; clear h ac wo; intro sv9 ac wo apsv9 h
    refine st h 3 [sv9] rfl zz86 rfl rfl (m7 (h.row_sl 0 rfl)) rfl (sK (h.row_sl 0 rfl)) rfl rfl ?_; clear h ac wo; intro ac wo h
    refine gz h <| (ai) ?_ ?_ <;> clear h ac wo <;> intro ac wo h hc6
    ·
     have hq6:=hc6; try simp at hq6
     refine gz h <| (W) ?_; clear h ac wo; intro ac wo h
     refine inl (vs:=[(vR (((gt l x10).iv).hi)),(vD ((gt l x10).f)),(ptr b1 0)]) (M:=13) h (uH (vs:=[(vR (((gt l x10).iv).hi)),(vD ((gt l x10).f))]) (cap:=[(ptr b1 0)]) cc250 rfl rfl) Tryz.func250 rfl rfl rfl ?_
     clear h ac; intro R3 hR3 ac h
     refine gz h <| (xb) fun b7=>(xb) fun b8=>(xo (hs:=by exact bX qE exs rfl (v:=(vV (⟨((gt l x10).iv).hi,((gt l x10).iv).hi,false,false⟩:Iv))) rfl)) <| (xo (hs:=by exact bX oS exs rfl (v:=(vUD (⟨(⟨((gt l x10).iv).hi,((gt l x10).iv).hi,false,false⟩:Iv),(gt l x10).f⟩:U Qd))) rfl)) <| ?_; clear h ac wo; intro ac wo h
     refine nw h (bT (α:=U Qd) (xs:=[.tmp 10]) (vs:=[(vUD (⟨(⟨((gt l x10).iv).hi,((gt l x10).iv).hi,false,false⟩:Iv),(gt l x10).f⟩:U Qd))]) [(⟨(⟨((gt l x10).iv).hi,((gt l x10).iv).hi,false,false⟩:Iv),(gt l x10).f⟩:U Qd)] iJ rfl rfl rfl (by decide)) rfl ?_; clear h ac wo; intro sv10 ac wo nnsv10 h
     refine on2 h 3 0 rfl rfl (eA (xs:=(out++[(⟨(⟨((gt l x10).iv).lo,((gt l x10).iv).hi,true,true⟩:Iv),(gt l x10).f⟩:U Qd)])) (ys:=[(⟨(⟨((gt l x10).iv).hi,((gt l x10).iv).hi,false,false⟩:Iv),(gt l x10).f⟩:U Qd)]) iJ (fun w hs=>(row_view hs 0 rfl)) rfl rfl og) rfl ?_; clear h ac wo; intro sv11 ac wo apsv11 h
     refine st h 6 [sv11] rfl zz86 rfl rfl (m7 (h.row_sl 0 rfl)) rfl (sK (h.row_sl 0 rfl)) rfl rfl ?_; clear h ac wo; intro ac wo h
     refine gz h <| (W) ?_; clear h ac wo; intro ac wo h
     refine nO (rs:=[]) (vs:=[]) h rfl .nil rfl (hR3 _ _ _ h.bel h.sep ?_)
     clear h ac hR3; intro ac h
     refine gz h <| (W) ?_; clear h ac wo; intro ac wo h
     have hg:=cZ hL1 pt
     exact az ⟨m1,og,_,_,_,og,hg,og,(All.app (All.app zout (All.cons ⟨⟨((All.gt zl (bG _)).1).1,((All.gt zl (bG _)).1).2⟩,(All.gt zl (bG _)).2⟩ All.nil)) (All.cons ⟨⟨((All.gt zl (bG _)).1).2,((All.gt zl (bG _)).1).2⟩,(All.gt zl (bG _)).2⟩ All.nil)),og,h.re [0,6]⟩
    ·
     have hq6:=hc6; try simp at hq6
     refine gz h <| (W) ?_; clear h ac wo; intro ac wo h
     have hg:=cZ hL1 pt
     exact az ⟨m1,og,_,_,_,og,hg,og,(All.app zout (All.cons ⟨⟨((All.gt zl (bG _)).1).1,((All.gt zl (bG _)).1).2⟩,(All.gt zl (bG _)).2⟩ All.nil)),og,h.re [0,3]⟩
 ·
  have hd1:=of_decide_eq_false hc1
  have hx1:=eh hL1 pt
  have hd:ae l=out:=pt
  refine gz h <| (W) ?_; clear h ac wo; intro ac wo h
  exact (rt h) (by rw [hd]; exact h.retR 0 rfl ⟨zout,og⟩)
attribute [irreducible] ae
def dg (a:U Qd) (b:U Qd):Int :=
 (nI ([(ah a.iv.lo b.iv.lo),(bN (aP a.iv) (aP b.iv)),(ah a.iv.hi b.iv.hi)]))
theorem eO (a:U Qd) (b:U Qd) (za:g6 30 a) (zb:g6 30 b) (w0:World) :Calls Tryz.prog 247 #[(vUD a),(vUD b)] w0 (dh w0 (.int .i64 (dg a b)) (True)):=by
 refine enter (N:=31) (args:=[(vUD a),(vUD b)]) Tryz.func247 rfl rfl ?_; intro ac h
 have p2:=ar ((aL a.iv.lo b.iv.lo 10 og za.1.1 zb.1.1) w0)
 refine gz h <| (xb) fun b1=>(xb) fun b2=>(W) ?_; clear h ac; intro ac wo h
 have s3:=Calls.pr ((fun w_ hB_ hS_=>fo a.iv za.1 w_ ) _ h.bel h.sep)
 have p4:=s3
 have s5:=Calls.pr ((fun w_ hB_ hS_=>fo b.iv zb.1 w_ ) _ h.bel h.sep)
 have p6:=s5
 have p8:=ar ((kW (aP a.iv) (aP b.iv)) w0)
 have p10:=ar ((aL a.iv.hi b.iv.hi 10 og za.1.2 zb.1.2) w0)
 replace h:=h.emps 1
 refine fU mixed [dv _,dv _,dw _ [1],dv _,dv _,dw _ [0],dv _,dv _,dv _,dw _ [1],dv _,dv _,dv _,dw _ [0],dv _,dv _,dv _,dv _,dw _ [1],dv _,dv _,dw _ [0],dv _,⟨.nd (.one 23 fun v=>NN v 3),[2]⟩,dw _ [2],dv _] [⟨_,[]⟩,⟨_,[]⟩,⟨.emp,[(23,.one 23 fun v=>.row (α:=Int) 3 v ([(ah a.iv.lo b.iv.lo),(bN (aP a.iv) (aP b.iv)),(ah a.iv.hi b.iv.hi)]))]⟩] h rfl (by kernel_rfl) ⟨fun _ _=>bk (fa uu88 rfl zz74 rfl rfl rfl (k':=0)),fun _ _=>bk (fa uu74 rfl zz46 rfl rfl rfl (k':=0)),fun _ _=>jB _ rfl rfl (kt aa46 zz46 rfl rfl rfl (v:=(vR a.iv.lo)) rfl),fun _ _=>bk (fa uu88 rfl zz74 rfl rfl rfl (k':=0)),fun _ _=>bk (fa uu74 rfl zz46 rfl rfl rfl (k':=0)),fun _ _=>jB _ rfl rfl (kt aa46 zz46 rfl rfl rfl (v:=(vR b.iv.lo)) rfl),fun _ _=>i0 (fq (cz Tryz.call59 rfl) (kk (aL a.iv.lo b.iv.lo 10 og za.1.1 zb.1.1))),fun _ _=>om rfl,fun _ _=>bk (fa uu88 rfl zz74 rfl rfl rfl (k':=0)),fun _ _=>jB _ rfl rfl (kt Tryz.isAgg74 zz74 rfl rfl rfl (v:=(vV a.iv)) rfl),fun _ _=>i0 (fq (uH (cap:=[]) Tryz.call248 rfl rfl) (kk (fo a.iv za.1))),fun _ _=>om rfl,fun _ _=>bk (fa uu88 rfl zz74 rfl rfl rfl (k':=0)),fun _ _=>jB _ rfl rfl (kt Tryz.isAgg74 zz74 rfl rfl rfl (v:=(vV b.iv)) rfl),fun _ _=>i0 (fq (uH (cap:=[]) Tryz.call248 rfl rfl) (kk (fo b.iv zb.1))),fun _ _=>i0 (fq (cz Tryz.call196 rfl) (kk (kW (aP a.iv) (aP b.iv)))),fun _ _=>bk (fa uu88 rfl zz74 rfl rfl rfl (k':=0)),fun _ _=>bk (fa uu74 rfl zz46 rfl rfl rfl (k':=9)),fun _ _=>jB _ rfl rfl (kt aa46 zz46 rfl rfl rfl (v:=(vR a.iv.hi)) rfl),fun _ _=>bk (fa uu88 rfl zz74 rfl rfl rfl (k':=0)),fun _ _=>bk (fa uu74 rfl zz46 rfl rfl rfl (k':=9)),fun _ _=>jB _ rfl rfl (kt aa46 zz46 rfl rfl rfl (v:=(vR b.iv.hi)) rfl),fun _ _=>i0 (fq (cz Tryz.call59 rfl) (kk (aL a.iv.hi b.iv.hi 10 og za.1.2 zb.1.2))),fun _ _=>my (ψ:=fun v=>NN v 3) (B:=fun v=>[.row (α:=Int) 3 v ([(ah a.iv.lo b.iv.lo),(bN (aP a.iv) (aP b.iv)),(ah a.iv.hi b.iv.hi)])]) [.emp] rfl (fun v _=>by simp only [dJ,bt] <;> rfl) (fun v hv=>by simpa [DF.one,bt] using hv) (jh (bT (α:=Int) (xs:=[.tmp 12,.tmp 21,.tmp 28]) (vs:=[(.int .i64 (ah a.iv.lo b.iv.lo)),(.int .i64 (bN (aP a.iv) (aP b.iv))),(.int .i64 (ah a.iv.hi b.iv.hi))]) [(ah a.iv.lo b.iv.lo),(bN (aP a.iv) (aP b.iv)),(ah a.iv.hi b.iv.hi)] slt358 rfl rfl rfl (by decide))),fun ξ hφ=>lS _ [.row (α:=Int) 3 (ξ 23) ([(ah a.iv.lo b.iv.lo),(bN (aP a.iv) (aP b.iv)),(ah a.iv.hi b.iv.hi)])] rfl rfl (fq (cz Tryz.call249 rfl) (fun w_ hB_ hS_=>zW ([(ah a.iv.lo b.iv.lo),(bN (aP a.iv) (aP b.iv)),(ah a.iv.hi b.iv.hi)]) (ξ 23) w_ (row_view hS_ 0 rfl))),fun _ _=>bk (aA rfl),trivial⟩ ?_
 clear h ac wo; intro ξ ac wo hφ h
 replace h:St w0 31 [(4,(.int .i64 (nI ([(ah a.iv.lo b.iv.lo),(bN (aP a.iv) (aP b.iv)),(ah a.iv.hi b.iv.hi)]))))] [.blk b2 (cUD b) 88,.blk b1 (cUD a) 88] ac wo:=(h.pick [0,1] (by decide)).sub ⟨rfl,trivial⟩
 clear hφ ξ
 refine gz h <| (W) ?_; clear h ac wo; intro ac wo h
 exact (rt h) (h.retP (by unfold dg; rfl) trivial)
attribute [irreducible] dg
def iL (data:List (U Qd)) (a:Nat) (b:Nat) (i:Nat) (data1:List (U Qd)):List (U Qd) :=
 data1
def iK (data:List (U Qd)) (a:Nat) (b:Nat) (i:Nat) (data1:List (U Qd)) (j:Nat) (data2:List (U Qd)):Nx (Nat×(List (U Qd))) (List (U Qd)) :=
 .go ((i+1),data2)
def eB (data:List (U Qd)) (a:Nat) (b:Nat) (i:Nat) (data1:List (U Qd)) (j:Nat) (data2:List (U Qd)):Nx (Nat×(List (U Qd))) (List (U Qd)) :=
 bif ((decide (((j:Nat):Int)>((a:Nat):Int))) && (decide ((dg (gt data2 j) (gt data2 (j - 1))) < 0))) then
  .go ((j - 1),((data2.set j (gt data2 (j - 1))).set (j - 1) (gt data2 j)))
 else
  .out (j,data2)
def eC (data:List (U Qd)) (a:Nat) (b:Nat) (i:Nat) (data1:List (U Qd)):Nx (Nat×(List (U Qd))) (List (U Qd)) :=
 bif (decide (((i:Nat):Int) < ((b:Nat):Int))) then
  fin (bZ (fun s=>eB data a b i data1 s.1 s.2) (i+1) (i,data1)) (fun s=>iK data a b i data1 s.1 s.2) (fun r=>.ret r)
 else
  .out (i,data1)
def aY (data:List (U Qd)) (a:Nat) (b:Nat):List (U Qd) :=
 fin (bZ (fun s=>eC data a b s.1 s.2) ((b+1 - (a+1))+1) ((a+1),data)) (fun s=>iL data a b s.1 s.2) (fun r=>r)
theorem fK (data:List (U Qd)) (datav:Value) (a:Nat) (b:Nat) (hab:a≤b) (hb:b≤data.length) (hb2:b≤1000) (zdata:All (g6 30) data) (w0 w:World) (B:Asn) (hbel:Below w0.heap.size w0 w) (hsep:∃ Z_,Sep w0.heap.size w [.row (α:=U Qd) 88 datav data,B] Z_) :Calls Tryz.prog 331 #[datav,(.int .i64 ((a:Nat):Int)),(.int .i64 ((b:Nat):Int)),(.func (.func 247) #[] #[])] w (RetY w0 (fun v=>v=.tuple #[]∧(All (g6 30) (aY data a b)∧(aY data a b).length=data.length)) (fun v=>[.row (α:=U Qd) 88 datav (aY data a b),B])):=by
 refine mF (N:=53) (args:=[datav,(.int .i64 ((a:Nat):Int)),(.int .i64 ((b:Nat):Int)),(.func (.func 247) #[] #[])]) Tryz.func331 rfl rfl hbel hsep ?_; intro ac h
 have hlendata:=h.len 0 rfl
 obtain ⟨X1,hX1⟩:∃ X,bZ (fun s=>eC data a b s.1 s.2) ((b+1 - (a+1))+1) ((a+1),data)=X:=⟨_,rfl⟩
 refine gz h <| (W) ?_; clear h ac; intro ac wo h
 refine wp_loop_ghost (fun n_ a_ w_=>∃ (i:Nat) (data1:List (U Qd)),((b+1 - i) < n_)∧(bZ (fun s=>eC data a b s.1 s.2) n_ (i,data1)=X1)∧(i≤b+1)∧(All (g6 30) data1)∧(data1.length=data.length)∧St w0 53 [(0,datav),(1,(.int .i64 ((a:Nat):Int))),(2,(.int .i64 ((b:Nat):Int))),(3,(.func (.func 247) #[] #[])),(8,(.int .i64 ((i:Nat):Int)))] [.row (α:=U Qd) 88 datav data1,B] a_ w_) ((b+1 - (a+1))+1) ⟨(a+1),data,og,hX1,og,zdata,og,h.rs⟩ ?_
 clear h ac wo; rintro n1 ac wo ⟨i,data1,hm1,hL1,hi,zdata1,hdl,h⟩
 obtain ⟨m1,rfl⟩:∃ m,n1=m+1:=⟨n1 - 1,by omega⟩
 refine gz h <| (ai) ?_ ?_ <;> clear h ac wo <;> intro ac wo h hc1
 ·
  have hd1:=of_decide_eq_true hc1
  obtain ⟨X2,hX2⟩:∃ X,bZ (fun s=>eB data a b i data1 s.1 s.2) (i+1) (i,data1)=X:=⟨_,rfl⟩
  refine gz h <| (W) ?_; clear h ac wo; intro ac wo h
  refine wp_loop_ghost (fun n_ a_ w_=>∃ (j:Nat) (data2:List (U Qd)),(j < n_)∧(bZ (fun s=>eB data a b i data1 s.1 s.2) n_ (j,data2)=X2)∧(All (g6 30) data2)∧(j≤i)∧(data2.length=data.length)∧St w0 53 [(0,datav),(1,(.int .i64 ((a:Nat):Int))),(2,(.int .i64 ((b:Nat):Int))),(3,(.func (.func 247) #[] #[])),(8,(.int .i64 ((i:Nat):Int))),(9,(.int .i64 ((j:Nat):Int)))] [.row (α:=U Qd) 88 datav data2,B] a_ w_) (i+1) ⟨i,data1,og,hX2,zdata1,og,og,h.rs⟩ ?_
  clear h ac wo; rintro n2 ac wo ⟨j,data2,hm2,hL2,zdata2,hj,hdl2,h⟩
  obtain ⟨m2,rfl⟩:∃ m,n2=m+1:=⟨n2 - 1,by omega⟩
  refine gz h <| (dr0 (hob:=(oG (by exact fun hg=>eO (gt data2 j) (gt data2 (j - 1)) (All.gt zdata2 (bG _)) (All.gt zdata2 (bG _)))) <| oE)) <| (ai) ?_ ?_ <;> clear h ac wo <;> intro ac wo h hc2
  ·
   have hq2:=hc2; try simp at hq2
   refine gz h <| (dr1 (H:=[⟨.row (α:=U Qd) 88 datav data2,[(15,.con (.row (α:=U Qd) 88 datav (data2.set j (gt data2 (j - 1))))),(17,.con (.row (α:=U Qd) 88 datav ((data2.set j (gt data2 (j - 1))).set (j - 1) (gt data2 j))))]⟩,⟨_,[]⟩]) (hob:=(oY (h:=by exact fun _=>lS (acc:=[0]) _ [.row (α:=U Qd) 88 datav (data2.set j (gt data2 (j - 1)))] rfl rfl (g5 (k:=0) (u':=(gt data2 (j - 1))) Tryz.sizeOf88 (iF og) rfl (Nat.add_zero _) rfl rfl rfl rfl rfl rfl))) <| (oY (h:=by exact fun _=>lS (acc:=[0]) _ [.row (α:=U Qd) 88 datav ((data2.set j (gt data2 (j - 1))).set (j - 1) (gt data2 j))] rfl rfl (g5 (k:=0) (u':=(gt data2 j)) Tryz.sizeOf88 (iF og) rfl (Nat.add_zero _) rfl rfl rfl rfl rfl rfl))) <| oE)) <| (W) ?_; clear h ac wo; intro ac wo h
   have hg:=cZ hL2 pt
   exact az ⟨m2,og,_,_,og,hg,(All.set (All.set zdata2 (All.gt zdata2 (bG _))) (All.gt zdata2 (bG _))),og,og,h.re [0,1]⟩
  ·
   have hq2:=hc2; try simp at hq2
   have hx2:=eh hL2 pt
   refine gz h <| (W) ?_; clear h ac wo; intro ac wo h
   have hg:=cZ hL1 pt
   exact az ⟨m1,og,_,_,og,hg,og,zdata2,og,h.re [0,1]⟩
 ·
  have hd1:=of_decide_eq_false hc1
  have hx1:=eh hL1 pt
  have hd:aY data a b=data1:=pt
  refine gz h <| (W) ?_; clear h ac wo; intro ac wo h
  exact nO (vs:=[]) h rfl .nil rfl ((h.pick [0,1] (by decide)).retY ⟨rfl,(by rw [hd]; exact ⟨zdata1,og⟩)⟩ (by rw [hd]; rfl))
attribute [irreducible] aY
def jL (data:List (U Qd)) (n:Nat) (a:Nat) (b:Nat) (data1:List (U Qd)) (blockSize:Nat):List (U Qd) :=
 (aY data1 a n)
def jN (data:List (U Qd)) (n:Nat) (a:Nat) (b:Nat) (data1:List (U Qd)) (blockSize:Nat):Nx Nat (List (U Qd)) :=
 .out blockSize
def jM (data:List (U Qd)) (n:Nat) (a:Nat) (b:Nat) (data1:List (U Qd)):List (U Qd) :=
 fin (bZ (fun s=>jN data n a b data1 s) (0+1) 20) (fun s=>jL data n a b data1 s) (fun r=>r)
def jO (data:List (U Qd)) (n:Nat) (a:Nat) (b:Nat) (data1:List (U Qd)):Nx (Nat×Nat×(List (U Qd))) (List (U Qd)) :=
 .out (a,b,data1)
def ej (data:List (U Qd)) (n:Nat):List (U Qd) :=
 fin (bZ (fun s=>jO data n s.1 s.2.1 s.2.2) (0+1) (0,20,data)) (fun s=>jM data n s.1 s.2.1 s.2.2) (fun r=>r)
attribute [irreducible] ej
def cO (x:List (U Qd)):List (U Qd) :=
 (ej x x.length)
attribute [irreducible] cO
def am (l:List (U Qd)):(List (U Qd)) :=
 (cO (aS l))
attribute [irreducible] am
end Go.Sx
