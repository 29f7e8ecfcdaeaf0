/- A part of the proof of movingpointBoxes. -/
import Derived.Test.YtpfdaoajcnophaaGreatDoorL8
import Derived.Test.YtpfdaoajcnophaaGreatDoorM1
set_option linter.unusedVariables false
set_option linter.unusedSimpArgs false
namespace Go.Sx
theorem kJ (l:List (U Ln)):af l=sO dh l 0 l.length:=by
 unfold af be a6 cr
 show bn l 0 l.length=_
 unfold bn
 rfl
theorem mf (a b:U Ln):dh a b=cU a b:=by
 unfold dh aT cU ci
 rfl
theorem o6 [K:Key] {d:List (U Ln)} (hd:∀ u∈d,Tv u.iv):(af d).Perm d∧(af d).Pairwise fun a b=>kU a.iv≤kU b.iv:=by
 rw [kJ]
 exact wq mf hd
theorem pk (l:List (U Ln)):ag l=l.flatMap atU:=by
 unfold ag
 have h:=qG (R:=List (U Ln)) (f:=fun o u=>o++atU u) l (I:=fun _=>True) (B:=fun s=>dJ l s.1 s.2)
  (fun _ _ h=>h)
  (fun o i _ hi=>by
    show dJ l i o=_
    unfold dJ atU ptU mP
    rw [decide_eq_true (by omega:((i:Nat):Int) < ((l.length:Nat):Int)),cond_true]
    cases (gt l i).iv.openLo <;> cases aM (gt l i).iv <;> cases (gt l i).iv.openHi <;> simp)
  (fun o=>by
    show dJ l l.length o=_
    unfold dJ
    rw [decide_eq_false (by omega:¬ ((l.length:Nat):Int) < ((l.length:Nat):Int))]
    rfl) l [] [] (l.length - 0+1) trivial rfl (by omega)
 refine (ut h).trans ?_
 show gK l l.length _=_
 unfold gK
 rw [sX,List.nil_append]
theorem lM {l:List (U Ln)} (hl:(af l).length=l.length) (h:∀ i,0 < i→i < l.length→dP (gt (af l) (i - 1)).iv (gt (af l) i).iv=true):aU l=fJ l l.length:=by
 unfold aU
 refine (ut (yf (n:=l.length) (r:=(([],11):List (U Ln)×Int)) (bad:=fun x=>decide (((x:Nat):Int)>0) && !(dP (gt (af l) (x - 1)).iv (gt (af l) x).iv)) (fun x hx=>by
  unfold fe
  rw [hl,decide_eq_true (by omega:((x:Nat):Int) < ((l.length:Nat):Int)),cond_true]) (by
  unfold fe
  rw [hl,decide_eq_false (by omega:¬ ((l.length:Nat):Int) < ((l.length:Nat):Int))]
  rfl) (l.length - 0+1) 0 (Nat.zero_le _) (by omega) fun i _ h2=>?_)).trans rfl
 by_cases e:0 < i
 · show (decide (((i:Nat):Int)>0) && !(dP (gt (af l) (i - 1)).iv (gt (af l) i).iv))=false
   rw [h i e h2,Bool.not_true,Bool.and_false]
 · show (decide (((i:Nat):Int)>0) && _)=false
   rw [decide_eq_false (by omega:¬ ((i:Nat):Int)>0),Bool.false_and]
theorem qb (l:List (U Ln)) (x18:Nat) (out:List (U Ln)) (x:Nat) (hx:x < (ag (af l)).length) :
 dB l x18 out x=.go (dT cA bt aC (ag (af l)) out x,x+1):=by
 unfold dB dT i4 kF tD jm fG
 rw [decide_eq_true (by omega:((x:Nat):Int) < (((ag (af l)).length:Nat):Int)),cond_true]
 generalize ag (af l)=L
 repeat' (first | refine cond_go ?_ ?_ | rfl)
theorem lN (l:List (U Ln)) (n:Nat):fJ l n=(fL (dT cA bt aC (ag (af l))) [] (ag (af l)).length,0):=by
 unfold fJ
 refine (ut (sM (o:=([]:List (U Ln))) (st:=dT cA bt aC (ag (af l))) (n:=(ag (af l)).length) (B:=fun s=>dB l n s.1 s.2)
  (fun o i hi=>qb l n o i hi) (fun o=>by
    show dB l n o _=_
    unfold dB
    rw [decide_eq_false (by omega:¬ (((ag (af l)).length:Nat):Int) < (((ag (af l)).length:Nat):Int))]
    rfl) _ 0 (Nat.zero_le _) (by omega))).trans ?_
 rfl
end Go.Sx
namespace Go.Sx
section
variable {α:Type} [Inhabited α] (eqf:α→α→Bool) (same:α→α→GR→Bool) (red:α→GR→α)
def Lk (x y:U α):Prop :=
 x.iv.hi=y.iv.lo →
  (x.iv.lo=x.iv.hi→same y.f x.f y.iv.lo=false) ∧
  (x.iv.lo≠x.iv.hi→(x.iv.openHi=false→eqf x.f y.f=false)∧(x.iv.openHi=true→y.iv.openLo=false→same x.f y.f y.iv.lo=false))
structure NF [K:Key] (n:List (U α)):Prop where
 wv:∀ x∈n,Wv x.iv
 ord:n.Pairwise fun a b=>fg a.iv < (eW b.iv:Int)
 lk:∀ i,i+1 < n.length→Lk eqf same (gt n i) (gt n (i+1))
 inst:∀ x∈n,x.iv.lo=x.iv.hi→red x.f x.iv.lo=x.f
variable {eqf same red} {L out:List (U α)} {x:Nat} {t t':GR} {f:α}
theorem xP (hx:gt L x=ptU t f) (hb:0 < out.length→(lst out).iv.hi=t→(lst out).iv.lo≠(lst out).iv.hi→same (lst out).f f t=false) (hn:x+1 < L.length) (h2:(gt L (x+1)).iv.lo=t) (h3:same (gt L (x+1)).f f t=true) :
 dT eqf same red L out x=out:=by
 have hp:kF same red L out x=out:=by
  unfold kF
  rw [hx]
  show (bif (((decide (((x+1:Nat):Int) < ((L.length:Nat):Int))) && (decide ((gt L (x+1)).iv.lo=t))) && (same ((gt L (x+1)).f) f t)) then out else _)=out
  rw [decide_eq_true (by omega:((x+1:Nat):Int) < ((L.length:Nat):Int)),h2,decide_eq_true rfl,h3]
  rfl
 unfold dT
 rw [hp,hx]
 show (bif tD L out x then bif (!(decide (t=t))) then _ else bif (same (gt out (out.length - 1)).f f t) then _ else out else bif (!(decide (t=t))) then _ else out)=out
 rw [decide_eq_true rfl]
 cases hbf:tD L out x with
 | false=>rfl
 | true =>
  obtain ⟨b1,b2,b3⟩:=jp.1 hbf
  rw [hx] at b2
  have hs:same (gt out (out.length - 1)).f f t=false:=hb b1 b2 b3
  rw [hs]; rfl
theorem sn_app (hx:gt L x=ptU t f) (hb:0 < out.length→(lst out).iv.hi=t→(lst out).iv.lo≠(lst out).iv.hi→same (lst out).f f t=false) (hn:x+1 < L.length→(gt L (x+1)).iv.lo=t→same (gt L (x+1)).f f t=false) :
 dT eqf same red L out x=out++[ptU t (red f t)]:=by
 have hp:kF same red L out x=out++[ptU t (red f t)]:=by
  unfold kF
  rw [hx]
  show (bif (((decide (((x+1:Nat):Int) < ((L.length:Nat):Int))) && (decide ((gt L (x+1)).iv.lo=t))) && (same ((gt L (x+1)).f) f t)) then out else out++[ptU t (red f t)])=_
  cases hq:(((decide (((x+1:Nat):Int) < ((L.length:Nat):Int))) && (decide ((gt L (x+1)).iv.lo=t))) && (same ((gt L (x+1)).f) f t)) with
  | false=>rfl
  | true =>
   simp only [Bool.and_eq_true,decide_eq_true_eq] at hq
   rw [hn (by omega) hq.1.2] at hq
   exact absurd hq.2 (by decide)
 unfold dT
 rw [hp,hx]
 show (bif tD L out x then bif (!(decide (t=t))) then _ else bif (same (gt out (out.length - 1)).f f t) then _ else _ else bif (!(decide (t=t))) then _ else _)=_
 rw [decide_eq_true rfl]
 cases hbf:tD L out x with
 | false=>rfl
 | true =>
  obtain ⟨b1,b2,b3⟩:=jp.1 hbf
  rw [hx] at b2
  have hs:same (gt out (out.length - 1)).f f t=false:=hb b1 b2 b3
  rw [hs]; rfl
theorem xQ (hx:gt L x=mP t t' f) (hne:t≠t') (hb:0 < out.length→(lst out).iv.hi=t→(lst out).iv.lo≠(lst out).iv.hi→(lst out).iv.openHi=false→eqf (lst out).f f=false)
 (own:Bool) (ho:own=true↔(0 < x∧(gt L (x - 1)).iv.lo=(gt L (x - 1)).iv.hi∧(gt L (x - 1)).iv.lo=t∧jm out t=false)) :
 dT eqf same red L out x=out++[⟨⟨t,t',!own,true⟩,f⟩]:=by
 have hp:i4 L out x=out++[⟨⟨t,t',!own,true⟩,f⟩]:=by
  unfold i4
  rw [hx]
  have hc:((((decide (((x:Nat):Int)>0)) && (aM ((gt L (x - 1)).iv))) && (decide (((gt L (x - 1)).iv).lo=t))) && (!(jm out t)))=own:=by
   cases own with
   | true =>
    obtain ⟨a1,a2,a3,a4⟩:=ho.1 rfl
    rw [a4,decide_eq_true a3,decide_eq_true (by omega:((x:Nat):Int)>0)]
    unfold aM
    rw [decide_eq_true a2]; rfl
   | false =>
    cases hq:((((decide (((x:Nat):Int)>0)) && (aM ((gt L (x - 1)).iv))) && (decide (((gt L (x - 1)).iv).lo=t))) && (!(jm out t))) with
    | false=>rfl
    | true =>
     simp only [Bool.and_eq_true,decide_eq_true_eq,Bool.not_eq_true'] at hq
     unfold aM at hq
     exact absurd (ho.2 ⟨by omega,of_decide_eq_true hq.1.1.2,hq.1.2,hq.2⟩) (by decide)
  show (bif ((((decide (((x:Nat):Int)>0)) && (aM ((gt L (x - 1)).iv))) && (decide (((gt L (x - 1)).iv).lo=t))) && (!(jm out t))) then _ else _)=_
  rw [hc]
  cases own <;> rfl
 unfold dT
 rw [hp,hx]
 show (bif tD L out x then bif (!(decide (t=t'))) then bif ((!((gt out (out.length - 1)).iv).openHi) && (eqf ((gt out (out.length - 1)).f) f)) then _ else _ else _ else bif (!(decide (t=t'))) then _ else _)=_
 rw [decide_eq_false hne]
 cases hbf:tD L out x with
 | false=>rfl
 | true =>
  obtain ⟨b1,b2,b3⟩:=jp.1 hbf
  rw [hx] at b2
  cases hoh:(gt out (out.length - 1)).iv.openHi with
  | true=>rfl
  | false =>
   rw [show eqf (gt out (out.length - 1)).f f=false from hb b1 b2 b3 hoh]; rfl
theorem xR (hx:gt L x=ptU t f) (h0:0 < out.length) (h1:(lst out).iv.hi=t) (h2:(lst out).iv.lo≠(lst out).iv.hi) (hs:same (lst out).f f t=true) :
 dT eqf same red L out x=out.set (out.length - 1) ⟨⟨(lst out).iv.lo,(lst out).iv.hi,(lst out).iv.openLo,false⟩,(lst out).f⟩:=by
 unfold dT
 rw [jp.2 ⟨h0,by rw [hx]; exact h1,h2⟩,hx]
 show (bif true then bif (!(decide (t=t))) then _ else bif (same (gt out (out.length - 1)).f f t) then _ else _ else _)=_
 rw [decide_eq_true rfl,show same (gt out (out.length - 1)).f f t=true from hs]
 rfl
omit [Inhabited α] in
theorem n9 {p:List (U α)} {y z:U α}:(p++[y]).set ((p++[y]).length - 1) z=p++[z]:=by
 rw [List.length_append,List.length_singleton,Nat.add_sub_cancel,List.set_append_right _ _ (Nat.le_refl _),Nat.sub_self]; rfl
theorem fV {p:List (U α)} (h:0 < p.length):lst p∈p:=by
 unfold lst
 rw [gF (by omega)]; exact List.getElem_mem _
omit [Inhabited α] in
theorem atU_ne {u:U α}:atU u=[]→aM u.iv=true∧u.iv.openLo=true:=by
 unfold atU
 cases u.iv.openLo <;> cases aM u.iv <;> simp
theorem nf_fix [K:Key] {n:List (U α)} (h:NF eqf same red n) (hr:∀ x∈n,∀ t,Tm t→same x.f x.f t=true) :
 ∀ (s p:List (U α)),n=p++s→fL (dT eqf same red (n.flatMap atU)) [] (p.flatMap atU).length=p→fL (dT eqf same red (n.flatMap atU)) [] (n.flatMap atU).length=n
 | [],p,hn,hp=>by
  rw [List.append_nil] at hn
  rw [← hn] at hp
  exact hp
 | y::s,p,hn,hp=>by
  refine nf_fix h hr s (p++[y]) (by rw [hn]; simp) ?_
  have hL:n.flatMap atU=p.flatMap atU++(atU y++s.flatMap atU):=by rw [hn]; simp
  have hy:y∈n:=by rw [hn]; simp
  have hwy:=h.wv y hy
  have hc:((p++[y]).flatMap atU).length=(p.flatMap atU).length+(atU y).length:=by simp
  rw [hc]
  generalize hcc:(p.flatMap atU).length=c at *
  generalize hLL:n.flatMap atU=L at *
  have hLl:L.length=c+((atU y).length+(s.flatMap atU).length):=by rw [hL,List.length_append,List.length_append,hcc]
  have hI:∀ k,fL (dT eqf same red L) [] (c+(k+1))=dT eqf same red L (fL (dT eqf same red L) [] (c+k)) (c+k):=fun _=>rfl
  have hprev:0 < p.length→lst p∈n∧fg (lst p).iv < (eW y.iv:Int)∧Lk eqf same (lst p) y:=fun h0=>by
   have e1:gt n (p.length - 1)=lst p:=by
    rw [hn]; unfold lst; rw [gc (by omega)]
   have e2:gt n (p.length - 1+1)=y:=by
    rw [show p.length - 1+1=p.length by omega,hn]; exact uo rfl
   have hl:=h.lk (p.length - 1) (by rw [hn]; simp; omega)
   rw [e1,e2] at hl
   have ho:=h.ord
   rw [hn,List.pairwise_append] at ho
   exact ⟨by rw [hn]; exact List.mem_append_left _ (fV h0),ho.2.2 _ (fV h0) y (List.mem_cons_self ..),hl⟩
  have hat:0 < c→0 < p.length∧((lst p).iv.lo≠(lst p).iv.hi→(lst p).iv.openHi=true→gt L (c - 1)=mP (lst p).iv.lo (lst p).iv.hi (lst p).f) ∧
   (((lst p).iv.lo=(lst p).iv.hi∨(lst p).iv.openHi=false)→gt L (c - 1)=ptU (lst p).iv.hi (lst p).f):=fun h0=>by
   have hpl:0 < p.length:=by
    cases p with
    | nil =>
     have hcc:0=c:=hcc
     omega
    | cons _ _=>simp
   obtain ⟨q,z,rfl⟩:∃ q z,p=q++[z]:=⟨p.dropLast,p.getLast (by intro e; rw [e] at hpl; simp at hpl),(List.dropLast_concat_getLast _).symm⟩
   have hzm:z∈n:=by rw [hn]; simp
   have hwz:=h.wv z hzm
   rw [jx]
   refine ⟨hpl,?_⟩
   have hz:gt L (c - 1)=gt (atU z) ((atU z).length - 1)∨atU z=[]:=by
    by_cases e:atU z=[]
    · exact .inr e
    · left
      have hl0:0 < (atU z).length:=List.length_pos_iff.2 e
      have e3:c=(q.flatMap atU).length+(atU z).length:=by rw [← hcc]; simp
      have e4:L=q.flatMap atU++(atU z++(atU y++s.flatMap atU)):=by rw [hL]; simp
      rw [e4,e3]
      have e5:gt (q.flatMap atU++(atU z++(atU y++s.flatMap atU))) ((q.flatMap atU).length+(atU z).length - 1)=gt (atU z++(atU y++s.flatMap atU)) ((atU z).length - 1):=by
       rw [show (q.flatMap atU).length+(atU z).length - 1=(q.flatMap atU).length+((atU z).length - 1) by omega]
       simp [gt,List.getD,List.getElem?_append_right]
      rw [e5,gc (by omega)]
   have hz:gt L (c - 1)=gt (atU z) ((atU z).length - 1):=by
    rcases hz with hz | hz
    · exact hz
    · obtain ⟨a1,a2⟩:=atU_ne hz
      unfold aM at a1
      have:=(hwz.2.2 (by rw [of_decide_eq_true a1])).1
      rw [this] at a2; cases a2
   rw [hz]
   refine ⟨fun a1 a2=>?_,fun a1=>?_⟩
   · unfold atU aM
     rw [decide_eq_false a1,a2]
     cases z.iv.openLo <;> rfl
   · by_cases e:z.iv.lo=z.iv.hi
     · have e1:=(hwz.2.2 (by rw [e])).1
       unfold atU aM
       rw [decide_eq_true e,e1,← e]
       rfl
     · rcases a1 with a1 | a1
       · exact absurd a1 e
       · unfold atU aM
         rw [decide_eq_false e,a1]
         cases z.iv.openLo <;> rfl
  have hnx:c+(atU y).length < L.length→∃ z∈n,gt L (c+(atU y).length)=gt (atU z) 0∧(gt (atU z) 0).iv.lo=z.iv.lo∧(gt (atU z) 0).f=z.f∧fg y.iv < (eW z.iv:Int)∧Lk eqf same y z:=fun h0=>by
   cases s with
   | nil =>
    have e0:(List.flatMap (atU (α:=α)) []).length=0:=rfl
    rw [e0] at hLl
    omega
   | cons z s =>
    have hzm:z∈n:=by rw [hn]; simp
    have hwz:=h.wv z hzm
    have ho:=h.ord
    rw [hn,List.pairwise_append,List.pairwise_cons] at ho
    have hlz:=h.lk p.length (by rw [hn]; simp)
    have e1:gt n p.length=y:=by rw [hn]; exact uo rfl
    have e2:gt n (p.length+1)=z:=by rw [hn,show p++y::z::s=(p++[y])++z::s by simp]; exact uo (by simp)
    rw [e1,e2] at hlz
    have hne:atU z≠[]:=fun e=>by
     obtain ⟨a1,a2⟩:=atU_ne e
     unfold aM at a1
     have:=(hwz.2.2 (by rw [of_decide_eq_true a1])).1
     rw [this] at a2; cases a2
    have e3:gt L (c+(atU y).length)=gt (atU z) 0:=by
     have e4:L=(p.flatMap atU++atU y)++(atU z++s.flatMap atU):=by rw [hL,List.flatMap_cons,List.append_assoc]
     rw [e4]
     have hl0:0 < (atU z).length:=List.length_pos_iff.2 hne
     have:c+(atU y).length=(p.flatMap atU++atU y).length+0:=by rw [List.length_append,hcc,Nat.add_zero]
     rw [this]
     have:∀ (A B:List (U α)),gt (A++B) (A.length+0)=gt B 0:=fun A B=>by simp [gt,List.getD,List.getElem?_append_right]
     rw [this,gc hl0]
    refine ⟨z,hzm,e3,?_,?_,ho.2.1.1 z (List.mem_cons_self ..),hlz⟩
    · revert hne
      unfold atU
      intro hne
      revert hne
      cases z.iv.openLo <;> cases aM z.iv <;> first | (intro _; rfl) | (intro hne; exact absurd rfl hne)
    · revert hne
      unfold atU
      intro hne
      revert hne
      cases z.iv.openLo <;> cases aM z.iv <;> first | (intro _; rfl) | (intro hne; exact absurd rfl hne)
  have hgt:∀ k,k < (atU y).length→gt L (c+k)=gt (atU y) k:=fun k hk=>by
   rw [hL,← hcc]
   have:∀ (A B:List (U α)),gt (A++B) (A.length+k)=gt B k:=fun A B=>by simp [gt,List.getD,List.getElem?_append_right]
   rw [this,gc hk]
  have hlen:c+(atU y).length≤L.length:=by omega
  have hpf:0 < p.length→(lst p).iv.hi=y.iv.lo→(lst p).iv.lo≠(lst p).iv.hi→y.iv.openLo=false→(lst p).iv.openHi=true∧same (lst p).f y.f y.iv.lo=false:=fun h0 h1 h2 h3=>by
   obtain ⟨_,a2,a3⟩:=hprev h0
   have:(lst p).iv.openHi=true:=by
    cases e:(lst p).iv.openHi with
    | true=>rfl
    | false =>
     unfold fg eW at a2
     rw [e,h3,h1] at a2
     simp at a2
   exact ⟨this,((a3 h1).2 h2).2 this h3⟩
  by_cases hi:y.iv.lo=y.iv.hi
  · 
   obtain ⟨o1,o2⟩:=hwy.2.2 (by rw [hi])
   have ea:atU y=[ptU y.iv.lo y.f]:=by
    unfold atU aM
    rw [o1,decide_eq_true hi]; rfl
   have hx0:gt L (c+0)=ptU y.iv.lo y.f:=by rw [hgt 0 (by rw [ea]; simp),ea]; rfl
   rw [ea] at hnx ⊢
   show fL _ [] (c+(0+1))=_
   rw [hI 0]
   show dT eqf same red L (fL _ [] c) (c+0)=_
   rw [hp,sn_app hx0 (fun a1 a2 a3=>(hpf a1 a2 a3 o1).2) fun a1 a2=>?_,h.inst y hy hi]
   · have:ptU y.iv.lo y.f=y:=by
      obtain ⟨⟨lo,hi',ol,oh⟩,f⟩:=y
      simp only at hi o1 o2
      unfold ptU
      simp only
      rw [o1,o2,← hi]
     rw [this]
   · obtain ⟨z,hz,e1,e2,e3,e4,e5⟩:=hnx a1
     have a2:(gt L (c+1)).iv.lo=y.iv.lo:=a2
     have e1:gt L (c+1)=gt (atU z) 0:=e1
     rw [e1,e2] at a2
     show same (gt L (c+1)).f y.f y.iv.lo=false
     rw [e1,e3]
     have:=(e5 (by rw [a2,hi])).1 hi
     rwa [a2] at this
  · 
   have hini:aM y.iv=false:=decide_eq_false hi
   have hE:∀ (k:Nat) (o:List (U α)) (b:Bool),fL (dT eqf same red L) [] (c+k)=p++[⟨⟨y.iv.lo,y.iv.hi,b,true⟩,y.f⟩]→b=y.iv.openLo→(y.iv.openHi=false→gt L (c+k)=ptU y.iv.hi y.f) →
    fL (dT eqf same red L) [] (c+(k+(bif y.iv.openHi then 0 else 1)))=p++[y]:=fun k o b e1 e2 e3=>by
    cases ho:y.iv.openHi with
    | true =>
     show fL _ [] (c+k)=_
     rw [e1,e2,← ho]
    | false =>
     show fL _ [] (c+(k+1))=_
     rw [hI k,e1,xR (e3 ho) (by simp) (by rw [jx]) (by rw [jx]; exact hi) (by rw [jx]; exact hr y hy _ hwy.1.2),jx,n9,e2]
     show p++[(⟨⟨y.iv.lo,y.iv.hi,y.iv.openLo,false⟩,y.f⟩:U α)]=_
     rw [← ho]
   cases hol:y.iv.openLo with
   | false =>
    have ea:atU y=ptU y.iv.lo y.f::mP y.iv.lo y.iv.hi y.f::(bif y.iv.openHi then [] else [ptU y.iv.hi y.f]):=by
     unfold atU; rw [hol,hini]; rfl
    have hl2:(atU y).length=2+(bif y.iv.openHi then 0 else 1):=by rw [ea]; cases y.iv.openHi <;> rfl
    have hx0:gt L (c+0)=ptU y.iv.lo y.f:=by rw [hgt 0 (by rw [hl2]; omega),ea]; rfl
    have hx1:gt L (c+1)=mP y.iv.lo y.iv.hi y.f:=by rw [hgt 1 (by rw [hl2]; omega),ea]; rfl
    rw [hl2]
    have st1:fL (dT eqf same red L) [] (c+1)=p:=by
     show dT eqf same red L (fL _ [] c) (c+0)=_
     rw [hp]
     exact xP hx0 (fun a1 a2 a3=>(hpf a1 a2 a3 hol).2) (by rw [hl2] at hlen; omega) (by show (gt L (c+1)).iv.lo=_; rw [hx1]; rfl) (by show same (gt L (c+1)).f _ _=true; rw [hx1]; exact hr y hy _ hwy.1.1)
    refine hE 2 [] false ?_ hol.symm (fun e=>by rw [hgt 2 (by rw [hl2,e]; decide),ea,e]; rfl)
    show fL _ [] (c+(1+1))=_
    rw [hI 1,st1]
    refine xQ hx1 hi (fun a1 a2 a3 a4=>by have:=(hpf a1 a2 a3 hol).1; rw [this] at a4; cases a4) true ⟨fun _=>⟨by omega,?_,?_,?_⟩,fun _=>rfl⟩
    · rw [Nat.add_sub_cancel]; show (gt L (c+0)).iv.lo=(gt L (c+0)).iv.hi; rw [hx0]; rfl
    · rw [Nat.add_sub_cancel]; show (gt L (c+0)).iv.lo=_; rw [hx0]; rfl
    · cases hh:jm p y.iv.lo with
      | false=>rfl
      | true =>
       obtain ⟨b1,b2,b3⟩:=ir.1 hh
       obtain ⟨_,a2,_⟩:=hprev b1
       unfold fg eW at a2
       rw [b3,b2,hol] at a2
       simp at a2
   | true =>
    have ea:atU y=mP y.iv.lo y.iv.hi y.f::(bif y.iv.openHi then [] else [ptU y.iv.hi y.f]):=by
     unfold atU; rw [hol,hini]; rfl
    have hl2:(atU y).length=1+(bif y.iv.openHi then 0 else 1):=by rw [ea]; cases y.iv.openHi <;> rfl
    have hx0:gt L (c+0)=mP y.iv.lo y.iv.hi y.f:=by rw [hgt 0 (by rw [hl2]; omega),ea]; rfl
    rw [hl2]
    refine hE 1 [] true ?_ hol.symm (fun e=>by rw [hgt 1 (by rw [hl2,e]; decide),ea,e]; rfl)
    show fL _ [] (c+(0+1))=_
    rw [hI 0]
    show dT eqf same red L (fL _ [] c) (c+0)=_
    rw [hp]
    refine xQ hx0 hi (fun a1 a2 a3 a4=>(((hprev a1).2.2 a2).2 a3).1 a4) false ⟨fun e=>(by cases e),fun ⟨a1,a2,a3,a4⟩=>?_⟩
    rw [Nat.add_zero] at a2 a3
    obtain ⟨b1,b2,b3⟩:=hat (by omega)
    by_cases e:(lst p).iv.lo≠(lst p).iv.hi∧(lst p).iv.openHi=true
    · rw [b2 e.1 e.2] at a2
      exact absurd a2 e.1
    · have e':(lst p).iv.lo=(lst p).iv.hi∨(lst p).iv.openHi=false:=by
       by_cases e1:(lst p).iv.lo=(lst p).iv.hi
       · exact .inl e1
       · cases e2:(lst p).iv.openHi with
         | false=>exact .inr rfl
         | true=>exact absurd ⟨e1,e2⟩ e
      rw [b3 e'] at a3
      have a3:(lst p).iv.hi=y.iv.lo:=a3
      have hoh:(lst p).iv.openHi=false:=by
       rcases e' with e1 | e1
       · exact ((h.wv _ (hprev b1).1).2.2 (by rw [e1])).2
       · exact e1
      rw [ir.2 ⟨b1,a3,hoh⟩] at a4
      cases a4
end
end Go.Sx
namespace Go.Sx
section
variable {α:Type} [Inhabited α] {eqf:α→α→Bool} {same:α→α→GR→Bool} {red:α→GR→α} {A:List (At α)} {out:List (U α)} {i:Nat}
structure Ru [K:Key] (D:α→Prop) (same:α→α→GR→Bool) (red:α→GR→α):Prop where
 refl:∀ t,Tm t→∀ f,D f→same f f t=true
 symm:∀ t,Tm t→∀ f g,D f→D g→same f g t=true→same g f t=true
 trans:∀ t,Tm t→∀ f g h,D f→D g→D h→same f g t=true→same g h t=true→same f h t=true
 redD:∀ t,Tm t→∀ f,D f→D (red f t)
 redS:∀ t,Tm t→∀ f,D f→same (red f t) f t=true
 redR:∀ t,Tm t→∀ f,D f→red (red f t) t=red f t
theorem NF.snoc [K:Key] (h:NF eqf same red out) {y:U α} (hy:Wv y.iv) (hl:0 < out.length→fg (lst out).iv < (eW y.iv:Int)∧Lk eqf same (lst out) y) (hi:y.iv.lo=y.iv.hi→red y.f y.iv.lo=y.f):NF eqf same red (out++[y]):=by
 refine ⟨fun x hx=>?_,?_,fun j hj=>?_,fun x hx=>?_⟩
 · rcases List.mem_append.1 hx with hx | hx
   · exact h.wv x hx
   · rw [List.mem_singleton.1 hx]; exact hy
 · rw [List.pairwise_append]
   refine ⟨h.ord,List.pairwise_singleton _ _,fun a ha b hb=>?_⟩
   rw [List.mem_singleton.1 hb]
   have h0:0 < out.length:=List.length_pos_of_mem ha
   obtain ⟨k1,_⟩:=hl h0
   obtain ⟨q,hq⟩:=List.getElem_of_mem ha
   obtain ⟨hq1,hq2⟩:=hq
   by_cases e:q=out.length - 1
   · have:a=lst out:=by
      unfold lst
      rw [gF (by omega)]
      subst e
      exact hq2.symm
     rw [this]; exact k1
   · have:=List.pairwise_iff_getElem.1 h.ord q (out.length - 1) hq1 (by omega) (by omega)
     rw [hq2] at this
     have e2:out[out.length - 1]'(by omega)=lst out:=by unfold lst; rw [gF (by omega)]
     rw [e2] at this
     have:=(h.wv _ (fV h0)).le
     omega
 · rw [List.length_append,List.length_singleton] at hj
   by_cases e:j+1 < out.length
   · rw [gc (by omega),gc e]; exact h.lk j e
   · have e1:j+1=out.length:=by omega
     rw [gc (by omega),e1,rF]
     have:=(hl (by omega)).2
     unfold lst at this
     rwa [show out.length - 1=j by omega] at this
 · rcases List.mem_append.1 hx with hx | hx
   · exact h.inst x hx
   · rw [List.mem_singleton.1 hx]; exact hi
theorem NF.setl [K:Key] (h:NF eqf same red out) (h0:0 < out.length) {T:GR} {o:Bool} (hT:Tm T) (hlt:tk (lst out).iv.lo < tk T):NF eqf same red (out.set (out.length - 1) ⟨⟨(lst out).iv.lo,T,(lst out).iv.openLo,o⟩,(lst out).f⟩):=by
 obtain ⟨q,z,rfl⟩:∃ q z,out=q++[z]:=⟨out.dropLast,out.getLast (by intro e; rw [e] at h0; simp at h0),(List.dropLast_concat_getLast _).symm⟩
 rw [jx] at hlt ⊢
 rw [n9]
 have hz:=h.wv z (by simp)
 have hq:NF eqf same red q:=by
  have ho:=h.ord
  rw [List.pairwise_append] at ho
  refine ⟨fun x hx=>h.wv x (List.mem_append_left _ hx),ho.1,fun j hj=>?_,fun x hx=>h.inst x (List.mem_append_left _ hx)⟩
  have:=h.lk j (by simp; omega)
  rwa [gc (by omega),gc hj] at this
 refine hq.snoc ⟨⟨hz.1.1,hT⟩,Nat.le_of_lt hlt,fun e=>?_⟩ (fun hq0=>?_) fun e=>?_
 · have e:tk z.iv.lo=tk T:=e
   omega
 · have ho:=h.ord
   rw [List.pairwise_append] at ho
   refine ⟨ho.2.2 _ (fV hq0) z (by simp),?_⟩
   have:=h.lk (q.length - 1) (by simp; omega)
   rw [gc (by omega),show q.length - 1+1=q.length by omega,rF] at this
   exact this
 · have e:z.iv.lo=T:=e
   rw [e] at hlt; omega
omit [Inhabited α] in
end
end Go.Sx
namespace Go.Sx
def Bq (m:Nat) (q:GQ):Prop:=QOk q∧∃ (a:Int) (b:Nat),0 < b∧b < 2 ^ m∧a.natAbs < 2 ^ m∧aZ q=(a:Rat) / (b:Rat)
theorem fX {b:Nat} (h:0 < b):(b:Rat)≠0:=by
 have:((b:Nat):Rat)≠((0:Nat):Rat):=fun e=>by rw [Rat.natCast_inj] at e; omega
 exact this
theorem Bq.mag {m:Nat} {q:GQ} (h:Bq m q):q.num.mag < 2 ^ m∧q.den.mag < 2 ^ m:=by
 obtain ⟨hq,a,b,b0,b1,a1,e⟩:=h
 have hp:=hq.pos
 have hc:=hq.2.2
 have e2:dN q.num*(b:Int)=a*(gy q:Int):=by
  have h1:=fX b0
  have h2:=fX hp
  have:(dN q.num:Rat)*(b:Rat)=(a:Rat)*(gy q:Rat):=by
   unfold aZ at e; grind
  exact_mod_cast this
 have e3:q.num.mag*b=a.natAbs*gy q:=by
  have:=congrArg Int.natAbs e2
  rw [Int.natAbs_mul,Int.natAbs_mul,f4] at this
  simpa using this
 have d1:gy q ∣ b:=Nat.Coprime.dvd_of_dvd_mul_left hc.symm (m:=q.num.mag) ⟨a.natAbs,by rw [e3,Nat.mul_comm]⟩
 have d2:q.num.mag ∣ a.natAbs:=Nat.Coprime.dvd_of_dvd_mul_right hc (n:=gy q) ⟨b,by rw [← e3]⟩
 constructor
 · rcases Nat.eq_zero_or_pos a.natAbs with h | h
   · rw [h,Nat.zero_mul] at e3
     rcases Nat.mul_eq_zero.1 e3 with h | h
     · rw [h]; exact Nat.pow_pos (by decide)
     · omega
   · exact Nat.lt_of_le_of_lt (Nat.le_of_dvd h d2) a1
 · have h1:=Nat.le_of_dvd b0 d1
   unfold gy at h1
   split at h1
   · rename_i h; rw [h]; exact Nat.pow_pos (by decide)
   · omega
theorem Bq.le {m n:Nat} {q:GQ} (h:Bq m q) (hn:m≤n):Bq n q:=by
 obtain ⟨hq,a,b,b0,b1,a1,e⟩:=h
 have:=Nat.pow_le_pow_right (show 0 < 2 by decide) hn
 exact ⟨hq,a,b,b0,by omega,by omega,e⟩
theorem Bq.sz {m:Nat} {q:GQ} (h:Bq m q) (hm:m≤240):SzQ 40 q:=by
 have h2:=(h.le hm).mag
 have e:(2:Nat) ^ 240=256 ^ 30:=by rw [show (256:Nat)=2 ^ 8 from rfl,← Nat.pow_mul]
 rw [e] at h2
 have:=(cp 30 _).2 h2.1
 have:=(cp 30 _).2 h2.2
 constructor
 · show SzB 40 _; unfold SzB; omega
 · show SzB 40 _; unfold SzB; omega
theorem Bq.of {q:GQ} (hq:QOk q) {m:Nat} (a:Int) (b:Nat) (b0:0 < b) (b1:b < 2 ^ m) (a1:a.natAbs < 2 ^ m) (e:aZ q=(a:Rat) / (b:Rat)):Bq m q:=⟨hq,a,b,b0,b1,a1,e⟩
theorem Bq.self {q:GQ} (hq:QOk q) {m:Nat} (h1:q.num.mag < 2 ^ m) (h2:gy q < 2 ^ m):Bq m q:=⟨hq,dN q.num,gy q,hq.pos,h2,by rw [f4]; exact h1,rfl⟩
theorem pw (m n:Nat):2 ^ (m+n)=2 ^ m*2 ^ n:=Nat.pow_add 2 m n
theorem Bq.add {m n:Nat} {p q:GQ} (hp:Bq m p) (hq:Bq n q):Bq (m+n+1) (aq p q):=by
 obtain ⟨op,a,b,b0,b1,a1,e⟩:=hp
 obtain ⟨oq,c,d,d0,d1,c1,f⟩:=hq
 obtain ⟨o,v⟩:=fz op oq
 have h1:a.natAbs*d≤2 ^ m*2 ^ n:=Nat.mul_le_mul (Nat.le_of_lt a1) (Nat.le_of_lt d1)
 have h2:c.natAbs*b < 2 ^ m*2 ^ n:=by
  rw [Nat.mul_comm (2 ^ m)]
  exact Nat.lt_of_lt_of_le (Nat.mul_lt_mul_of_pos_right c1 b0) (Nat.mul_le_mul_left _ (Nat.le_of_lt b1))
 refine ⟨o,a*d+c*b,b*d,Nat.mul_pos b0 d0,?_,?_,?_⟩
 · rw [Nat.pow_succ,pw]
   have:=Nat.mul_lt_mul_of_lt_of_le b1 (Nat.le_of_lt d1) (Nat.pow_pos (n:=n) (show 0 < 2 by decide))
   omega
 · rw [Nat.pow_succ,pw]
   have:=Int.natAbs_add_le (a*d) (c*b)
   rw [Int.natAbs_mul,Int.natAbs_mul] at this
   simp only [Int.natAbs_natCast] at this
   omega
 · rw [v,e,f]
   have h1:=fX b0
   have h2:=fX d0
   push_cast
   grind
theorem Bq.mul {m n:Nat} {p q:GQ} (hp:Bq m p) (hq:Bq n q):Bq (m+n) (am p q):=by
 obtain ⟨op,a,b,b0,b1,a1,e⟩:=hp
 obtain ⟨oq,c,d,d0,d1,c1,f⟩:=hq
 obtain ⟨o,v⟩:=eO op oq
 have hN:=Nat.pow_pos (n:=n) (show 0 < 2 by decide)
 refine ⟨o,a*c,b*d,Nat.mul_pos b0 d0,?_,?_,?_⟩
 · rw [pw]; exact Nat.mul_lt_mul_of_lt_of_le b1 (Nat.le_of_lt d1) hN
 · rw [pw,Int.natAbs_mul]; exact Nat.mul_lt_mul_of_lt_of_le a1 (Nat.le_of_lt c1) hN
 · rw [v,e,f]
   have h1:=fX b0
   have h2:=fX d0
   push_cast
   grind
theorem Bq.neg {m:Nat} {p:GQ} (hp:Bq m p):Bq m (aE p):=by
 obtain ⟨op,a,b,b0,b1,a1,e⟩:=hp
 obtain ⟨o,v⟩:=jL op
 refine ⟨o,-a,b,b0,b1,by omega,?_⟩
 rw [v,e]
 have h1:=fX b0
 push_cast
 grind
theorem sub_is (p q:GQ):ak p q=aq p (aE q):=by unfold ak; rfl
theorem Bq.sub {m n:Nat} {p q:GQ} (hp:Bq m p) (hq:Bq n q):Bq (m+n+1) (ak p q):=by
 rw [sub_is]; exact hp.add hq.neg
theorem Bq.int {m:Nat} (n:Int) (h:n.natAbs < 2 ^ m) (hm:0 < m):Bq m (ah n):=by
 obtain ⟨o,v⟩:=bV n
 refine ⟨o,n,1,by decide,Nat.one_lt_two_pow (by omega),h,?_⟩
 rw [v]; show (n:Rat)=(n:Rat) / ((1:Nat):Rat); rw [show ((1:Nat):Rat)=1 from rfl]; grind
theorem Bq.zero {m:Nat} (hm:0 < m):Bq m zQ:=Bq.int 0 (Nat.pow_pos (by decide)) hm
def LOk (f:Ln):Prop:=QOk f.x0∧QOk f.x1∧QOk f.y0∧QOk f.y1
def BL (m:Nat) (f:Ln):Prop:=Bq m f.x0∧Bq m f.x1∧Bq m f.y0∧Bq m f.y1
theorem BL.ok {m:Nat} {f:Ln} (h:BL m f):LOk f:=⟨h.1.1,h.2.1.1,h.2.2.1.1,h.2.2.2.1⟩
theorem BL.le {m n:Nat} {f:Ln} (h:BL m f) (hn:m≤n):BL n f:=⟨h.1.le hn,h.2.1.le hn,h.2.2.1.le hn,h.2.2.2.le hn⟩
theorem BL.sz {m:Nat} {f:Ln} (h:BL m f) (hm:m≤240):SzN 40 f:=⟨h.1.sz hm,h.2.1.sz hm,h.2.2.1.sz hm,h.2.2.2.sz hm⟩
def lX (f:Ln):Qd:=aP f.x0 f.x1
def lY (f:Ln):Qd:=aP f.y0 f.y1
theorem rL (f:Ln):aR f=(lX f,lY f):=by unfold aR lX lY; rfl
theorem LOk.X {f:Ln} (h:LOk f):DOk (lX f)∧(lX f).c0=f.x0∧(lX f).c1=f.x1∧(lX f).c2=zQ:=kf h.1 h.2.1
theorem LOk.Y {f:Ln} (h:LOk f):DOk (lY f)∧(lY f).c0=f.y0∧(lY f).c1=f.y1∧(lY f).c2=zQ:=kf h.2.2.1 h.2.2.2
def lvN (t:GR) (f:Ln):(Rat×Rat)×(Rat×Rat):=(lv t (lX f),lv t (lY f))
theorem Ln.ext4 {f g:Ln} (h1:f.x0=g.x0) (h2:f.x1=g.x1) (h3:f.y0=g.y0) (h4:f.y1=g.y1):f=g:=by cases f; cases g; simp_all
theorem fH {f g:Ln} {t:GR} (hf:LOk f) (hg:LOk g) (ht:TOk t):bt f g t=true↔lvN t f=lvN t g:=by
 unfold bt lvN
 rw [rL,rL,Bool.and_eq_true,uR hf.X.1 hg.X.1 ht,uR hf.Y.1 hg.Y.1 ht]
 exact ⟨fun h=>Prod.ext h.1 h.2,fun h=>⟨congrArg Prod.fst h,congrArg Prod.snd h⟩⟩
def redX (f:Ln) (t:GR):Qd:=aY (lX f) t
def redY (f:Ln) (t:GR):Qd:=aY (lY f) t
theorem ii (f:Ln) (t:GR):aC f t=⟨(redX f t).c0,(redX f t).c1,(redY f t).c0,(redY f t).c1⟩:=by
 unfold aC redX redY
 rw [rL]
theorem yz {q:Qd} {t:GR} (hq:DOk q) (ht:TOk t):aP (aY q t).c0 (aY q t).c1=aY q t:=by
 obtain ⟨h1,_,_,h4⟩:=gA hq ht
 obtain ⟨_,a2,a3,a4⟩:=kf h1.1 h1.2.1
 generalize aY q t=r at *
 obtain ⟨x,y,z⟩:=r
 simp only at h4 a2 a3 a4
 generalize aP x y=s at *
 obtain ⟨x',y',z'⟩:=s
 simp only at a2 a3 a4
 rw [a2,a3,a4,h4]
theorem i6 {f:Ln} {t:GR} (hf:LOk f) (ht:TOk t):LOk (aC f t)∧lX (aC f t)=redX f t∧lY (aC f t)=redY f t:=by
 obtain ⟨h1,_⟩:=gA hf.X.1 ht
 obtain ⟨h2,_⟩:=gA hf.Y.1 ht
 rw [ii]
 exact ⟨⟨h1.1,h1.2.1,h2.1,h2.2.1⟩,yz hf.X.1 ht,yz hf.Y.1 ht⟩
theorem nL {f:Ln} {t:GR} (hf:LOk f) (ht:TOk t):lvN t (aC f t)=lvN t f:=by
 obtain ⟨_,h2,h3⟩:=i6 hf ht
 unfold lvN
 rw [h2,h3]
 exact Prod.ext (mG hf.X.1 ht) (mG hf.Y.1 ht)
theorem nK {f g:Ln} {t:GR} (hf:LOk f) (hg:LOk g) (ht:TOk t) (h:lvN t f=lvN t g):aC f t=aC g t:=by
 rw [ii,ii]
 have h1:redX f t=redX g t:=(sk hf.X.1 hg.X.1 ht).2 (congrArg Prod.fst h)
 have h2:redY f t=redY g t:=(sk hf.Y.1 hg.Y.1 ht).2 (congrArg Prod.snd h)
 rw [h1,h2]
theorem mH {f:Ln} {t:GR} (hf:LOk f) (ht:TOk t) (e:t.r=zQ) :
 (aC f t).x1=zQ∧(aC f t).y1=zQ∧aZ (aC f t).x0=aZ f.x0+aZ t.p*aZ f.x1∧aZ (aC f t).y0=aZ f.y0+aZ t.p*aZ f.y1:=by
 rw [ii]
 have key:∀ q:Qd,DOk q→q.c2=zQ→(aY q t).c1=zQ∧aZ (aY q t).c0=aZ q.c0+aZ t.p*aZ q.c1:=by
  intro q hq h2
  obtain ⟨k1,k2,k3,_⟩:=gA hq ht
  unfold lv at k2 k3
  rw [if_pos e] at k2 k3
  refine ⟨dC k1.2.1 fB.1 (by rw [k3,fB.2]),?_⟩
  rw [k2,h2,fB.2]; grind
 obtain ⟨x,xa,xb,xc⟩:=hf.X
 obtain ⟨y,ya,yb,yc⟩:=hf.Y
 obtain ⟨a1,a2⟩:=key _ x xc
 obtain ⟨b1,b2⟩:=key _ y yc
 rw [xa,xb] at a2
 rw [ya,yb] at b2
 exact ⟨a1,b1,a2,b2⟩
theorem mI {f:Ln} {t:GR} (hf:LOk f) (ht:TOk t) (e:t.r≠zQ):aC f t=f:=by
 rw [ii]
 have key:∀ q:Qd,DOk q→q.c2=zQ→(aY q t).c0=q.c0∧(aY q t).c1=q.c1:=by
  intro q hq h2
  obtain ⟨k1,k2,k3,_⟩:=gA hq ht
  unfold lv at k2 k3
  rw [if_neg e] at k2 k3
  simp only [h2,fB.2] at k2 k3
  exact ⟨dC k1.1 hq.1 (by rw [k2]; grind),dC k1.2.1 hq.2.1 (by rw [k3]; grind)⟩
 obtain ⟨x,xa,xb,xc⟩:=hf.X
 obtain ⟨y,ya,yb,yc⟩:=hf.Y
 obtain ⟨a1,a2⟩:=key _ x xc
 obtain ⟨b1,b2⟩:=key _ y yc
 exact Ln.ext4 (a1.trans xa) (a2.trans xb) (b1.trans ya) (b2.trans yb)
theorem kY {f:Ln} {t:GR} (hf:LOk f) (ht:TOk t) (h1:f.x1=zQ) (h2:f.y1=zQ):aC f t=f:=by
 by_cases e:t.r=zQ
 · obtain ⟨a,b,c,d⟩:=mH hf ht e
   obtain ⟨o1,_,o3,_⟩:=(i6 hf ht).1
   refine Ln.ext4 (dC o1 hf.1 ?_) (a.trans h1.symm) (dC o3 hf.2.2.1 ?_) (b.trans h2.symm)
   · rw [c,h1,fB.2]; grind
   · rw [d,h2,fB.2]; grind
 · exact mI hf ht e
def DL (m M:Nat) (f:Ln):Prop:=BL m f∨(f.x1=zQ∧f.y1=zQ∧BL M f)
theorem DL.ok {m M:Nat} {f:Ln} (h:DL m M f):LOk f:=by rcases h with h | h; exact h.ok; exact h.2.2.ok
theorem DL.bl {m M:Nat} {f:Ln} (h:DL m M f) (hm:m≤M):BL M f:=by rcases h with h | h; exact h.le hm; exact h.2.2
section
variable [K:Key]
theorem vm {m M n:Nat} (hb:∀ t:GR,Tm t→Bq n t.p) (hM:m+(n+m)+1≤M) (h0:0 < m):Ru (DL m M) bt aC where
 refl t ht f hf:=(fH hf.ok hf.ok ht.ok.tok).2 rfl
 symm t ht f g hf hg h:=(fH hg.ok hf.ok ht.ok.tok).2 ((fH hf.ok hg.ok ht.ok.tok).1 h).symm
 trans t ht f g k hf hg hk h h':=(fH hf.ok hk.ok ht.ok.tok).2 (((fH hf.ok hg.ok ht.ok.tok).1 h).trans ((fH hg.ok hk.ok ht.ok.tok).1 h'))
 redD t ht f hf:=by
  rcases hf with hf | ⟨h1,h2,h3⟩
  · by_cases e:t.r=zQ
    · obtain ⟨a,b,c,d⟩:=mH hf.ok ht.ok.tok e
      obtain ⟨o1,_,o3,_⟩:=(i6 hf.ok ht.ok.tok).1
      have hp:=hb t ht
      obtain ⟨b1,b2,b3,b4⟩:=hf
      have key:∀ {u v q:GQ},Bq m u→Bq m v→QOk q→aZ q=aZ u+aZ t.p*aZ v→Bq M q:=by
       intro u v q hu hv hq e
       have h:=(hu.add (hp.mul hv)).le hM
       have:q=aq u (am t.p v):=dC hq h.1 (by rw [e,(fz hu.1 (eO hp.1 hv.1).1).2,(eO hp.1 hv.1).2])
       rw [this]; exact h
      refine Or.inr ⟨a,b,key b1 b2 o1 c,?_,key b3 b4 o3 d,?_⟩
      · rw [a]; exact Bq.zero (by omega)
      · rw [b]; exact Bq.zero (by omega)
    · rw [mI hf.ok ht.ok.tok e]; exact Or.inl hf
  · rw [kY h3.ok ht.ok.tok h1 h2]; exact Or.inr ⟨h1,h2,h3⟩
 redS t ht f hf:=(fH (i6 hf.ok ht.ok.tok).1 hf.ok ht.ok.tok).2 (nL hf.ok ht.ok.tok)
 redR t ht f hf:=nK (i6 hf.ok ht.ok.tok).1 hf.ok ht.ok.tok (nL hf.ok ht.ok.tok)
end
theorem jy (a b:Ln):cA a b=true↔a=b:=by unfold cA; exact decide_eq_true_iff
end Go.Sx
namespace Go.Sx
set_option maxRecDepth 100000
section
variable {α:Type} [Inhabited α] {eqf:α→α→Bool} {same:α→α→GR→Bool} {red:α→GR→α} {D:α→Prop} {L out p:List (U α)} {x:Nat} {z zz y:U α}
def inU [K:Key] (i:Iv) (q:Nat):Prop:=eW i≤q∧(q:Int)≤fg i
omit [Inhabited α] in
theorem kH [K:Key] {t:GR} {f:α} {q:Nat}:inU (ptU t f).iv q↔q=2*tk t:=by
 have h1:eW (ptU t f).iv=2*tk t:=rfl
 have h2:fg (ptU t f).iv=2*(tk t:Int) - 0:=rfl
 unfold inU
 rw [h1,h2]; omega
omit [Inhabited α] in
theorem pz [K:Key] {t t':GR} {f:α} {q:Nat}:inU (mP t t' f).iv q↔2*tk t < q∧q < 2*tk t':=by
 have h1:eW (mP t t' f).iv=2*tk t+1:=rfl
 have h2:fg (mP t t' f).iv=2*(tk t':Int) - 1:=rfl
 unfold inU
 rw [h1,h2]; omega
def Atm [K:Key] (D:α→Prop) (y:U α):Prop:=D y.f∧((∃ t,Tm t∧y=ptU t y.f)∨∃ t t',Tm t∧Tm t'∧tk t < tk t'∧y=mP t t' y.f)
structure Ats [K:Key] (D:α→Prop) (L:List (U α)):Prop where
 at_:∀ k,k < L.length→Atm D (gt L k)
 ord:∀ i j,i < j→j < L.length→fg (gt L i).iv < (eW (gt L j).iv:Int)
def Lft (same:α→α→GR→Bool) (L out:List (U α)) (x:Nat) (t:GR):Prop:=jm out t=false∧x < L.length∧(gt L x).iv.lo=t∧same (gt L x).f (gt L (x - 1)).f t=true
def LpC (same:α→α→GR→Bool) (red:α→GR→α) (L out:List (U α)) (x:Nat) (t:GR):Prop :=
 (0 < out.length∧(lst out).iv.hi=t∧(lst out).iv.lo≠(lst out).iv.hi∧(lst out).iv.openHi=false) ∨
 (Lft same L out x t∧(0 < out.length→(lst out).iv.hi=t→(lst out).iv.lo≠(lst out).iv.hi→same (lst out).f (gt L (x - 1)).f t=false)) ∨
 (0 < out.length∧lst out=ptU t (red (gt L (x - 1)).f t)∧(x < L.length→(gt L x).iv.lo=t→same (gt L x).f (gt L (x - 1)).f t=false))
structure NI [K:Key] (eqf:α→α→Bool) (same:α→α→GR→Bool) (red:α→GR→α) (D:α→Prop) (L out:List (U α)) (x:Nat):Prop where
 nf:NF eqf same red out
 dd:∀ u∈out,D u.f
 bel:∀ u∈out,∀ k,x≤k→k < L.length→fg u.iv < (eW (gt L k).iv:Int)
 s1:∀ t,Tm t→∀ u∈out,inU u.iv (2*tk t)→∃ k,k < x∧inU (gt L k).iv (2*tk t)∧same u.f (gt L k).f t=true
 s2:∀ q,∀ u∈out,inU u.iv (2*q+1)→∃ k,k < x∧inU (gt L k).iv (2*q+1)∧u.f=(gt L k).f
 c1:∀ t,Tm t→∀ k,k < x→inU (gt L k).iv (2*tk t)→(∃ u∈out,inU u.iv (2*tk t)∧same u.f (gt L k).f t=true)∨(k+1=x∧Lft same L out x t)
 c2:∀ q k,k < x→inU (gt L k).iv (2*q+1)→∃ u∈out,inU u.iv (2*q+1)∧u.f=(gt L k).f
 lp:0 < x→∀ t,gt L (x - 1)=ptU t (gt L (x - 1)).f→LpC same red L out x t
theorem NI.app [K:Key] (h:NI eqf same red D L out x) (hD:D y.f) (hn:NF eqf same red (out++[y])) (hb:∀ k,x+1≤k→k < L.length→fg y.iv < (eW (gt L k).iv:Int))
 (p1:∀ t,Tm t→inU y.iv (2*tk t)→∃ k,k < x+1∧inU (gt L k).iv (2*tk t)∧same y.f (gt L k).f t=true)
 (p2:∀ q,inU y.iv (2*q+1)→∃ k,k < x+1∧inU (gt L k).iv (2*q+1)∧y.f=(gt L k).f)
 (q1:∀ t,Tm t→inU (gt L x).iv (2*tk t)→inU y.iv (2*tk t)∧same y.f (gt L x).f t=true)
 (q2:∀ q,inU (gt L x).iv (2*q+1)→inU y.iv (2*q+1)∧y.f=(gt L x).f)
 (ql:∀ t,Tm t→0 < x→inU (gt L (x - 1)).iv (2*tk t)→Lft same L out x t→inU y.iv (2*tk t)∧same y.f (gt L (x - 1)).f t=true)
 (lp:∀ t,gt L x=ptU t (gt L x).f→LpC same red L (out++[y]) (x+1) t):NI eqf same red D L (out++[y]) (x+1):=by
 have hy:y∈out++[y]:=by simp
 have ho:∀ u∈out,u∈out++[y]:=fun u hu=>List.mem_append_left _ hu
 refine ⟨hn,fun u hu=>?_,fun u hu k h1 h2=>?_,fun t ht u hu hi=>?_,fun q u hu hi=>?_,fun t ht k hk hi=>?_,fun q k hk hi=>?_,fun _ t e=>lp t e⟩
 · rcases List.mem_append.1 hu with hu | hu
   · exact h.dd u hu
   · rw [List.mem_singleton.1 hu]; exact hD
 · rcases List.mem_append.1 hu with hu | hu
   · exact h.bel u hu k (by omega) h2
   · rw [List.mem_singleton.1 hu]; exact hb k h1 h2
 · rcases List.mem_append.1 hu with hu | hu
   · obtain ⟨k,h1,h2⟩:=h.s1 t ht u hu hi
     exact ⟨k,by omega,h2⟩
   · rw [List.mem_singleton.1 hu] at hi ⊢; exact p1 t ht hi
 · rcases List.mem_append.1 hu with hu | hu
   · obtain ⟨k,h1,h2⟩:=h.s2 q u hu hi
     exact ⟨k,by omega,h2⟩
   · rw [List.mem_singleton.1 hu] at hi ⊢; exact p2 q hi
 · by_cases e:k=x
   · subst e
     exact .inl ⟨y,hy,q1 t ht hi⟩
   · rcases h.c1 t ht k (by omega) hi with ⟨u,hu,h1⟩ | ⟨h1,h2⟩
     · exact .inl ⟨u,ho u hu,h1⟩
     · have e2:k=x - 1:=by omega
       subst e2
       exact .inl ⟨y,hy,ql t ht (by omega) hi h2⟩
 · by_cases e:k=x
   · subst e
     exact ⟨y,hy,q2 q hi⟩
   · obtain ⟨u,hu,h1⟩:=h.c2 q k (by omega) hi
     exact ⟨u,ho u hu,h1⟩
theorem NI.rep [K:Key] (h:NI eqf same red D L (p++[z]) x) (hf:zz.f=z.f) (hn:NF eqf same red (p++[zz])) (hb:∀ k,x+1≤k→k < L.length→fg zz.iv < (eW (gt L k).iv:Int))
 (hz:∀ q,inU z.iv q→inU zz.iv q)
 (p1:∀ q,inU zz.iv q→inU z.iv q∨inU (gt L x).iv q)
 (q0:∀ q,inU (gt L x).iv q→inU zz.iv q)
 (r1:∀ t,Tm t→inU (gt L x).iv (2*tk t)→same z.f (gt L x).f t=true)
 (r2:∀ q,inU (gt L x).iv (2*q+1)→z.f=(gt L x).f)
 (ql:∀ t,Tm t→0 < x→inU (gt L (x - 1)).iv (2*tk t)→¬ Lft same L (p++[z]) x t)
 (lp:∀ t,gt L x=ptU t (gt L x).f→LpC same red L (p++[zz]) (x+1) t):NI eqf same red D L (p++[zz]) (x+1):=by
 have hy:zz∈p++[zz]:=by simp
 have hzm:z∈p++[z]:=by simp
 have hp:∀ u∈p,u∈p++[z]:=fun u hu=>List.mem_append_left _ hu
 have ho:∀ u∈p++[z],∀ q,inU u.iv q→∃ w∈p++[zz],inU w.iv q∧w.f=u.f:=fun u hu q hq=>by
  rcases List.mem_append.1 hu with hu | hu
  · exact ⟨u,List.mem_append_left _ hu,hq,rfl⟩
  · rw [List.mem_singleton.1 hu] at hq ⊢; exact ⟨zz,hy,hz q hq,hf⟩
 refine ⟨hn,fun u hu=>?_,fun u hu k h1 h2=>?_,fun t ht u hu hi=>?_,fun q u hu hi=>?_,fun t ht k hk hi=>?_,fun q k hk hi=>?_,fun _ t e=>lp t e⟩
 · rcases List.mem_append.1 hu with hu | hu
   · exact h.dd u (hp u hu)
   · rw [List.mem_singleton.1 hu,hf]; exact h.dd z hzm
 · rcases List.mem_append.1 hu with hu | hu
   · exact h.bel u (hp u hu) k (by omega) h2
   · rw [List.mem_singleton.1 hu]; exact hb k h1 h2
 · rcases List.mem_append.1 hu with hu | hu
   · obtain ⟨k,h1,h2⟩:=h.s1 t ht u (hp u hu) hi
     exact ⟨k,by omega,h2⟩
   · rw [List.mem_singleton.1 hu] at hi ⊢
     rw [hf]
     rcases p1 _ hi with h1 | h1
     · obtain ⟨k,h3,h2⟩:=h.s1 t ht z hzm h1
       exact ⟨k,by omega,h2⟩
     · exact ⟨x,by omega,h1,r1 t ht h1⟩
 · rcases List.mem_append.1 hu with hu | hu
   · obtain ⟨k,h1,h2⟩:=h.s2 q u (hp u hu) hi
     exact ⟨k,by omega,h2⟩
   · rw [List.mem_singleton.1 hu] at hi ⊢
     rw [hf]
     rcases p1 _ hi with h1 | h1
     · obtain ⟨k,h3,h2⟩:=h.s2 q z hzm h1
       exact ⟨k,by omega,h2⟩
     · exact ⟨x,by omega,h1,r2 q h1⟩
 · by_cases e:k=x
   · subst e
     exact .inl ⟨zz,hy,q0 _ hi,by rw [hf]; exact r1 t ht hi⟩
   · rcases h.c1 t ht k (by omega) hi with ⟨u,hu,h1,h2⟩ | ⟨h1,h2⟩
     · obtain ⟨w,hw,h3,h4⟩:=ho u hu _ h1
       exact .inl ⟨w,hw,h3,by rw [h4]; exact h2⟩
     · have e2:k=x - 1:=by omega
       subst e2
       exact absurd h2 (ql t ht (by omega) hi)
 · by_cases e:k=x
   · subst e
     exact ⟨zz,hy,q0 _ hi,by rw [hf]; exact r2 q hi⟩
   · obtain ⟨u,hu,h1,h2⟩:=h.c2 q k (by omega) hi
     obtain ⟨w,hw,h3,h4⟩:=ho u hu _ h1
     exact ⟨w,hw,h3,h4.trans h2⟩
theorem NI.leave [K:Key] (h:NI eqf same red D L out x) {t:GR} (hx:gt L x=ptU t (gt L x).f) (ql:∀ t,Tm t→0 < x→inU (gt L (x - 1)).iv (2*tk t)→¬ Lft same L out x t)
 (hl:Lft same L out (x+1) t) (hs:0 < out.length→(lst out).iv.hi=t→(lst out).iv.lo≠(lst out).iv.hi→same (lst out).f (gt L x).f t=false) (ht:Tm t):NI eqf same red D L out (x+1):=by
 refine ⟨h.nf,h.dd,fun u hu k h1 h2=>h.bel u hu k (by omega) h2,fun t ht u hu hi=>?_,fun q u hu hi=>?_,fun s hs_ k hk hi=>?_,fun q k hk hi=>?_,fun _ s e=>?_⟩
 · obtain ⟨k,h1,h2⟩:=h.s1 t ht u hu hi
   exact ⟨k,by omega,h2⟩
 · obtain ⟨k,h1,h2⟩:=h.s2 q u hu hi
   exact ⟨k,by omega,h2⟩
 · by_cases e:k=x
   · subst e
     rw [hx,kH] at hi
     have e2:s=t:=(hs_.inj ht).1 (by omega)
     subst e2
     exact .inr ⟨rfl,hl⟩
   · rcases h.c1 s hs_ k (by omega) hi with h1 | ⟨h1,h2⟩
     · exact .inl h1
     · have e2:k=x - 1:=by omega
       subst e2
       exact absurd h2 (ql s hs_ (by omega) hi)
 · by_cases e:k=x
   · subst e
     rw [hx,kH] at hi
     omega
   · exact h.c2 q k (by omega) hi
 · have e:gt L x=ptU s (gt L x).f:=e
   have e2:s=t:=by
    have:=congrArg (fun u:U α=>u.iv.lo) (e.symm.trans hx)
    exact this
   subst e2
   exact .inr (.inl ⟨hl,hs⟩)
omit [Inhabited α] in
theorem zW (h:0 < out.length):∃ q z,out=q++[z]:=⟨out.dropLast,out.getLast (by intro e; rw [e] at h; simp at h),(List.dropLast_concat_getLast _).symm⟩
omit [Inhabited α] in
theorem lo_eq [K:Key] {t:GR} (h:Wv z.iv) (he:z.iv.lo=z.iv.hi) (hh:z.iv.hi=t):z=ptU t z.f:=by
 obtain ⟨o1,o2⟩:=h.2.2 (by rw [he])
 obtain ⟨⟨lo,hi,ol,oh⟩,f⟩:=z
 simp only at he hh o1 o2
 subst hh he o1 o2
 rfl
theorem ni_point [K:Key] (R:Ru D same red) (hL:Ats D L) (hxl:x < L.length) {t:GR} (ht:Tm t) (hx:gt L x=ptU t (gt L x).f) (h:NI eqf same red D L out x):NI eqf same red D L (dT eqf same red L out x) (x+1):=by
 have hDf:D (gt L x).f:=(hL.at_ x hxl).1
 have hpl:fg (gt L x).iv=2*(tk t:Int):=by rw [hx]; show 2*(tk t:Int) - 0=_; omega
 have hpf:eW (gt L x).iv=2*tk t:=by rw [hx]; rfl
 have hlo:(gt L x).iv.lo=t:=by rw [hx]; rfl
 have ql:∀ s,Tm s→0 < x→inU (gt L (x - 1)).iv (2*tk s)→¬ Lft same L out x s:=fun s hs h0 hi hl=>by
  have h1:=hL.ord (x - 1) x (by omega) hxl
  have e:t=s:=hlo.symm.trans hl.2.2.1
  subst e
  have:=hi.2
  rw [hpf] at h1
  omega
 have hbx:∀ k,x+1≤k→k < L.length→2*(tk t:Int) < (eW (gt L k).iv:Int):=fun k h1 h2=>by
  have:=hL.ord x k (by omega) h2
  omega
 by_cases hM:0 < out.length∧(lst out).iv.hi=t∧(lst out).iv.lo≠(lst out).iv.hi∧same (lst out).f (gt L x).f t=true
 · obtain ⟨m1,m2,m3,m4⟩:=hM
   rw [xR hx m1 m2 m3 m4]
   obtain ⟨p,z,rfl⟩:=zW m1
   have hset:=h.nf.setl m1 (T:=(lst (p++[z])).iv.hi) (o:=false) (by rw [m2]; exact ht) (by
    have hw:=h.nf.wv _ (fV m1)
    have:=hw.2.1
    by_cases e:tk (lst (p++[z])).iv.lo=tk (lst (p++[z])).iv.hi
    · exact absurd ((hw.1.1.inj hw.1.2).1 e) m3
    · omega)
   rw [jx] at m2 m3 m4 hset ⊢
   rw [n9] at hset ⊢
   have hwz:=h.nf.wv z (by simp)
   have hlz:fg z.iv=2*(tk z.iv.hi:Int) - (bif z.iv.openHi then 1 else 0):=rfl
   have hlzz:fg (⟨z.iv.lo,z.iv.hi,z.iv.openLo,false⟩:Iv)=2*(tk t:Int) - 0:=by rw [← m2]; rfl
   have hb1:(bif z.iv.openHi then 1 else 0:Int)=0∨(bif z.iv.openHi then 1 else 0:Int)=1:=by cases z.iv.openHi <;> simp
   have hzb:=h.bel z (by simp) x (Nat.le_refl x) hxl
   rw [m2] at hlz
   refine h.rep rfl hset (fun k h1 h2=>?_) (fun q hq=>?_) (fun q hq=>?_) (fun q hq=>?_) (fun s hs hi=>?_) (fun q hi=>?_) ql (fun s e=>?_)
   · have:=hbx k h1 h2
     show fg (⟨z.iv.lo,z.iv.hi,z.iv.openLo,false⟩:Iv) < _
     omega
   · exact ⟨hq.1,by show _≤fg (⟨z.iv.lo,z.iv.hi,z.iv.openLo,false⟩:Iv); have:=hq.2; omega⟩
   · have h2:(q:Int)≤fg (⟨z.iv.lo,z.iv.hi,z.iv.openLo,false⟩:Iv):=hq.2
     by_cases e:q=2*tk t
     · right; rw [hx,kH]; exact e
     · left; exact ⟨hq.1,by rcases hb1 with h3 | h3 <;> omega⟩
   · rw [hx,kH] at hq
     refine ⟨?_,?_⟩
     · show eW z.iv≤q
       have:=hwz.le
       omega
     · show _≤fg (⟨z.iv.lo,z.iv.hi,z.iv.openLo,false⟩:Iv)
       omega
   · rw [hx,kH] at hi
     have e2:s=t:=(hs.inj ht).1 (by omega)
     rw [e2]; exact m4
   · rw [hx,kH] at hi
     omega
   · have e2:s=t:=congrArg (fun u:U α=>u.iv.lo) (e.symm.trans hx)
     rw [e2]
     refine .inl ⟨by simp,?_⟩
     rw [jx]
     exact ⟨m2,m3,rfl⟩
 · have hb:0 < out.length→(lst out).iv.hi=t→(lst out).iv.lo≠(lst out).iv.hi→same (lst out).f (gt L x).f t=false:=fun h1 h2 h3=>by
    cases e:same (lst out).f (gt L x).f t with
    | false=>rfl
    | true=>exact absurd ⟨h1,h2,h3,e⟩ hM
   have hnh:jm out t=false:=by
    cases e:jm out t with
    | false=>rfl
    | true =>
     obtain ⟨h1,h2,h3⟩:=ir.1 e
     have:=h.bel _ (fV h1) x (Nat.le_refl x) hxl
     have hl:fg (lst out).iv=2*(tk (lst out).iv.hi:Int) - (bif (lst out).iv.openHi then 1 else 0):=rfl
     rw [h2,h3] at hl
     have hl:fg (lst out).iv=2*(tk t:Int) - 0:=hl
     omega
   by_cases hN:x+1 < L.length∧(gt L (x+1)).iv.lo=t∧same (gt L (x+1)).f (gt L x).f t=true
   · obtain ⟨n1,n2,n3⟩:=hN
     rw [xP hx hb n1 n2 n3]
     exact h.leave hx ql ⟨hnh,n1,n2,n3⟩ hb ht
   · rw [sn_app hx hb (fun n1 n2=>by
      cases e:same (gt L (x+1)).f (gt L x).f t with
      | false=>rfl
      | true=>exact absurd ⟨n1,n2,e⟩ hN)]
     have hrs:=R.redS t ht _ hDf
     refine h.app (R.redD t ht _ hDf) (h.nf.snoc (y:=ptU t (red (gt L x).f t)) ⟨⟨ht,ht⟩,Nat.le_refl _,fun _=>⟨rfl,rfl⟩⟩ (fun h0=>⟨?_,fun hh=>⟨fun hi=>?_,fun hi=>⟨fun ho=>?_,fun ho _=>?_⟩⟩⟩) fun _=>R.redR t ht _ hDf) (fun k h1 h2=>?_) (fun s hs hi=>?_) (fun q hi=>?_) (fun s hs hi=>?_) (fun q hi=>?_) (fun s hs h0 hi hl=>absurd hl (ql s hs h0 hi)) (fun s e=>?_)
     · have:=h.bel _ (fV h0) x (Nat.le_refl x) hxl
       rw [hpf] at this
       exact this
     · have hh:(lst out).iv.hi=t:=hh
       have e:=lo_eq (h.nf.wv _ (fV h0)) hi hh
       have:=h.bel _ (fV h0) x (Nat.le_refl x) hxl
       rw [hpf,e] at this
       have hl:fg (ptU t (lst out).f).iv=2*(tk t:Int) - 0:=rfl
       omega
     · have hh:(lst out).iv.hi=t:=hh
       have:=ir.2 ⟨h0,hh,ho⟩
       rw [hnh] at this; cases this
     · have hh:(lst out).iv.hi=t:=hh
       have h1:=hb h0 hh hi
       cases e:same (lst out).f (red (gt L x).f t) t with
       | false=>exact e
       | true =>
        have:=R.trans t ht _ _ _ (h.dd _ (fV h0)) (R.redD t ht _ hDf) hDf e hrs
        rw [h1] at this; cases this
     · have hl:fg (ptU t (red (gt L x).f t)).iv=2*(tk t:Int) - 0:=rfl
       have:=hbx k h1 h2
       omega
     · rw [kH] at hi
       have e2:s=t:=(hs.inj ht).1 (by omega)
       subst e2
       exact ⟨x,by omega,by rw [hx,kH],hrs⟩
     · rw [kH] at hi; omega
     · rw [hx,kH] at hi
       have e2:s=t:=(hs.inj ht).1 (by omega)
       subst e2
       exact ⟨kH.2 rfl,hrs⟩
     · rw [hx,kH] at hi; omega
     · have e2:s=t:=congrArg (fun u:U α=>u.iv.lo) (e.symm.trans hx)
       rw [e2]
       refine .inr (.inr ⟨by simp,?_,fun n1 n2=>?_⟩)
       · rw [jx]; rfl
       · show same (gt L (x+1)).f (gt L x).f t=false
         cases e:same (gt L (x+1)).f (gt L x).f t with
         | false=>rfl
         | true=>exact absurd ⟨n1,n2,e⟩ hN
theorem sn_join {t t':GR} {f:α} (hx:gt L x=mP t t' f) (hne:t≠t') (h0:0 < out.length) (h1:(lst out).iv.hi=t) (h2:(lst out).iv.lo≠(lst out).iv.hi) (h3:(lst out).iv.openHi=false) (he:eqf (lst out).f f=true) :
 dT eqf same red L out x=out.set (out.length - 1) ⟨⟨(lst out).iv.lo,t',(lst out).iv.openLo,true⟩,(lst out).f⟩:=by
 unfold dT
 rw [jp.2 ⟨h0,by rw [hx]; exact h1,h2⟩,hx]
 show (bif true then bif (!(decide (t=t'))) then bif ((!((gt out (out.length - 1)).iv).openHi) && (eqf ((gt out (out.length - 1)).f) f)) then _ else _ else _ else _)=_
 rw [decide_eq_false hne,show (gt out (out.length - 1)).iv.openHi=false from h3,show eqf (gt out (out.length - 1)).f f=true from he]
 rfl
omit [Inhabited α] in
theorem Atm.le [K:Key] (h:Atm D y):(eW y.iv:Int)≤fg y.iv:=by
 rcases h.2 with ⟨t,_,e⟩ | ⟨t,t',_,_,hl,e⟩
 · rw [e]
   have h1:eW (ptU t y.f).iv=2*tk t:=rfl
   have h2:fg (ptU t y.f).iv=2*(tk t:Int) - 0:=rfl
   omega
 · rw [e]
   have h1:eW (mP t t' y.f).iv=2*tk t+1:=rfl
   have h2:fg (mP t t' y.f).iv=2*(tk t':Int) - 1:=rfl
   omega
theorem yL [K:Key] (hL:Ats D L) (hxl:x < L.length) {t t':GR} (ht:Tm t) (hx:gt L x=mP t t' (gt L x).f) {k:Nat} (hk:k < x) (hi:inU (gt L k).iv (2*tk t)):k=x - 1∧gt L k=ptU t (gt L k).f:=by
 have hpf:eW (gt L x).iv=2*tk t+1:=by rw [hx]; rfl
 have h1:=hL.ord k x hk hxl
 have h2:=hi.2
 refine ⟨?_,?_⟩
 · refine Classical.byContradiction fun hn=>?_
   have h3:=hL.ord k (x - 1) (by omega) (by omega)
   have h4:=hL.ord (x - 1) x (by omega) hxl
   have h5:=(hL.at_ (x - 1) (by omega)).le
   omega
 · rcases (hL.at_ k (by omega)).2 with ⟨s,hs,e⟩ | ⟨s,s',_,_,hl,e⟩
   · rw [e,kH] at hi
     have e2:t=s:=(ht.inj hs).1 (by omega)
     rw [e2]; exact e
   · rw [e] at h1 h2
     have h3:fg (mP s s' (gt L k).f).iv=2*(tk s':Int) - 1:=rfl
     omega
omit [Inhabited α] in
theorem atm_pt [K:Key] {t:GR} (h:Atm D y) (he:y.iv.lo=y.iv.hi) (hl:y.iv.lo=t):y=ptU t y.f:=by
 rcases h.2 with ⟨s,hs,e⟩ | ⟨s,s',_,_,hlt,e⟩
 · have:s=t:=by rw [← hl,e]; rfl
   rw [← this]; exact e
 · rw [e] at he
   have he:s=s':=he
   rw [he] at hlt; omega
theorem ni_gap [K:Key] (R:Ru D same red) (heq:∀ a b,eqf a b=true→a=b) (hL:Ats D L) (hxl:x < L.length) {t t':GR} (ht:Tm t) (ht':Tm t') (hlt:tk t < tk t') (hx:gt L x=mP t t' (gt L x).f) (h:NI eqf same red D L out x) :
 NI eqf same red D L (dT eqf same red L out x) (x+1):=by
 have hDf:D (gt L x).f:=(hL.at_ x hxl).1
 have hpl:fg (gt L x).iv=2*(tk t':Int) - 1:=by rw [hx]; rfl
 have hpf:eW (gt L x).iv=2*tk t+1:=by rw [hx]; rfl
 have hlo:(gt L x).iv.lo=t:=by rw [hx]; rfl
 have hne:t≠t':=fun e=>by rw [e] at hlt; omega
 have nopt:∀ s,gt L x≠ptU s (gt L x).f:=fun s e=>hne (by
  have e1:t=s:=congrArg (fun u:U α=>u.iv.lo) (hx.symm.trans e)
  have e2:t'=s:=congrArg (fun u:U α=>u.iv.hi) (hx.symm.trans e)
  rw [e1,e2])
 have hbx:∀ k,x+1≤k→k < L.length→2*(tk t':Int) - 1 < (eW (gt L k).iv:Int):=fun k h1 h2=>by
  have:=hL.ord x k (by omega) h2
  omega
 by_cases hJ:0 < out.length∧(lst out).iv.hi=t∧(lst out).iv.lo≠(lst out).iv.hi∧(lst out).iv.openHi=false∧eqf (lst out).f (gt L x).f=true
 · obtain ⟨m1,m2,m3,m4,m5⟩:=hJ
   rw [sn_join hx hne m1 m2 m3 m4 m5]
   have hheld:jm out t=true:=ir.2 ⟨m1,m2,m4⟩
   obtain ⟨p,z,rfl⟩:=zW m1
   have hw:=h.nf.wv _ (fV m1)
   have hlz0:tk (lst (p++[z])).iv.lo < tk t:=by
    have:=hw.2.1
    by_cases e:tk (lst (p++[z])).iv.lo=tk (lst (p++[z])).iv.hi
    · exact absurd ((hw.1.1.inj hw.1.2).1 e) m3
    · rw [m2] at this e; omega
   have hset:=h.nf.setl m1 (T:=t') (o:=true) ht' (by omega)
   rw [jx] at m2 m3 m4 m5 hset hw hlz0 ⊢
   rw [n9] at hset ⊢
   have hlz:fg z.iv=2*(tk z.iv.hi:Int) - (bif z.iv.openHi then 1 else 0):=rfl
   rw [m2,m4] at hlz
   have hlz:fg z.iv=2*(tk t:Int) - 0:=hlz
   have hlzz:fg (⟨z.iv.lo,t',z.iv.openLo,true⟩:Iv)=2*(tk t':Int) - 1:=rfl
   have hle:=hw.le
   refine h.rep rfl hset (fun k h1 h2=>?_) (fun q hq=>?_) (fun q hq=>?_) (fun q hq=>?_) (fun s hs _=>?_) (fun q _=>heq _ _ m5) (fun s hs h0 hi hl=>?_) (fun s e=>absurd e (nopt s))
   · have:=hbx k h1 h2
     show fg (⟨z.iv.lo,t',z.iv.openLo,true⟩:Iv) < _
     omega
   · exact ⟨hq.1,by show _≤fg (⟨z.iv.lo,t',z.iv.openLo,true⟩:Iv); have:=hq.2; omega⟩
   · have h2:(q:Int)≤fg (⟨z.iv.lo,t',z.iv.openLo,true⟩:Iv):=hq.2
     by_cases e:q≤2*tk t
     · left; exact ⟨hq.1,by omega⟩
     · right; rw [hx,pz]; omega
   · rw [hx,pz] at hq
     refine ⟨?_,?_⟩
     · show eW z.iv≤q
       omega
     · show _≤fg (⟨z.iv.lo,t',z.iv.openLo,true⟩:Iv)
       omega
   · rw [heq _ _ m5]; exact R.refl s hs _ hDf
   · have e:t=s:=hlo.symm.trans hl.2.2.1
     rw [← e] at hl
     rw [hl.1] at hheld; cases hheld
 · have hb:0 < out.length→(lst out).iv.hi=t→(lst out).iv.lo≠(lst out).iv.hi→(lst out).iv.openHi=false→eqf (lst out).f (gt L x).f=false:=fun h1 h2 h3 h4=>by
    cases e:eqf (lst out).f (gt L x).f with
    | false=>rfl
    | true=>exact absurd ⟨h1,h2,h3,h4,e⟩ hJ
   obtain ⟨own,ho⟩:∃ own:Bool,own=true↔(0 < x∧(gt L (x - 1)).iv.lo=(gt L (x - 1)).iv.hi∧(gt L (x - 1)).iv.lo=t∧jm out t=false):=⟨decide (0 < x∧(gt L (x - 1)).iv.lo=(gt L (x - 1)).iv.hi∧(gt L (x - 1)).iv.lo=t∧jm out t=false),decide_eq_true_iff⟩
   rw [xQ hx hne hb own ho]
   have hown:own=true→0 < x∧gt L (x - 1)=ptU t (gt L (x - 1)).f∧same (gt L x).f (gt L (x - 1)).f t=true∧jm out t=false∧(0 < out.length→(lst out).iv.hi=t→(lst out).iv.lo≠(lst out).iv.hi→same (lst out).f (gt L (x - 1)).f t=false):=fun e=>by
    obtain ⟨o1,o2,o3,o4⟩:=ho.1 e
    have hp:=atm_pt (hL.at_ (x - 1) (by omega)) o2 o3
    rcases h.lp o1 t hp with ⟨a1,a2,_,a4⟩ | ⟨a1,a2⟩ | ⟨a1,a2,_⟩
    · rw [ir.2 ⟨a1,a2,a4⟩] at o4; cases o4
    · exact ⟨o1,hp,a1.2.2.2,o4,a2⟩
    · rw [ir.2 ⟨a1,by rw [a2]; rfl,by rw [a2]; rfl⟩] at o4; cases o4
   have hyf:eW (⟨t,t',!own,true⟩:Iv)=2*tk t+(bif !own then 1 else 0):=rfl
   have hyl:fg (⟨t,t',!own,true⟩:Iv)=2*(tk t':Int) - 1:=rfl
   have hbv:(own=true∧(bif !own then 1 else 0:Nat)=0)∨(own=false∧(bif !own then 1 else 0:Nat)=1):=by cases own <;> simp
   have hlast:0 < out.length→fg (lst out).iv < (eW (⟨t,t',!own,true⟩:Iv):Int):=fun h0=>by
    have h1:=h.bel _ (fV h0) x (Nat.le_refl x) hxl
    rcases hbv with ⟨e,e1⟩ | ⟨e,e1⟩
    · have hh:=(hown e).2.2.2.1
      have hl:fg (lst out).iv=2*(tk (lst out).iv.hi:Int) - (bif (lst out).iv.openHi then 1 else 0):=rfl
      cases hoh:(lst out).iv.openHi with
      | true =>
       rw [hoh] at hl
       have hl:fg (lst out).iv=2*(tk (lst out).iv.hi:Int) - 1:=hl
       omega
      | false =>
       rw [hoh] at hl
       have hl:fg (lst out).iv=2*(tk (lst out).iv.hi:Int) - 0:=hl
       by_cases e2:tk (lst out).iv.hi=tk t
       · have e3:=((h.nf.wv _ (fV h0)).1.2.inj ht).1 e2
         rw [ir.2 ⟨h0,e3,hoh⟩] at hh; cases hh
       · omega
    · omega
   refine h.app (y:=⟨⟨t,t',!own,true⟩,(gt L x).f⟩) hDf (h.nf.snoc ⟨⟨ht,ht'⟩,Nat.le_of_lt hlt,fun e=>?_⟩ (fun h0=>⟨hlast h0,fun hh=>⟨fun hi=>?_,fun hi=>⟨fun hoh=>?_,fun hoh hol=>?_⟩⟩⟩) fun e=>absurd e hne) (fun k h1 h2=>?_) (fun s hs hi=>?_) (fun q hi=>?_) (fun s hs hi=>?_) (fun q hi=>?_) (fun s hs h0 hi hl=>?_) (fun s e=>absurd e (nopt s))
   · have e:tk t=tk t':=e
     omega
   · have hh:(lst out).iv.hi=t:=hh
     have hwl:=h.nf.wv _ (fV h0)
     have e:=lo_eq hwl hi hh
     obtain ⟨k,k1,k2,k3⟩:=h.s1 t ht _ (fV h0) (by rw [e]; exact kH.2 rfl)
     obtain ⟨e1,e2⟩:=yL hL hxl ht hx k1 k2
     subst e1
     rcases h.lp (by omega) t e2 with ⟨a1,a2,a3,a4⟩ | ⟨a1,a2⟩ | ⟨a1,a2,a3⟩
     · exact absurd hi a3
     · have:=a1.1
       rw [ir.2 ⟨h0,hh,by rw [e]; rfl⟩] at this; cases this
     · show same (gt L x).f (lst out).f t=false
       have hDp:D (gt L (x - 1)).f:=(hL.at_ (x - 1) (by omega)).1
       have e3:(lst out).f=red (gt L (x - 1)).f t:=congrArg (fun u:U α=>u.f) a2
       rw [e3]
       have h3:=a3 hxl hlo
       cases e4:same (gt L x).f (red (gt L (x - 1)).f t) t with
       | false=>rfl
       | true =>
        have:=R.trans t ht _ _ _ hDf (R.redD t ht _ hDp) hDp e4 (R.redS t ht _ hDp)
        rw [h3] at this; cases this
   · exact hb h0 hh hi hoh
   · have hh:(lst out).iv.hi=t:=hh
     have hol:(!own)=false:=hol
     have eo:own=true:=by cases own <;> first | rfl | cases hol
     obtain ⟨o1,o2,o3,o4,o5⟩:=hown eo
     have h3:=o5 h0 hh hi
     show same (lst out).f (gt L x).f t=false
     cases e4:same (lst out).f (gt L x).f t with
     | false=>rfl
     | true =>
      have:=R.trans t ht _ _ _ (h.dd _ (fV h0)) hDf (hL.at_ (x - 1) (by omega)).1 e4 o3
      rw [h3] at this; cases this
   · have:=hbx k h1 h2
     show fg (⟨t,t',!own,true⟩:Iv) < _
     omega
   · have h1:eW (⟨t,t',!own,true⟩:Iv)≤2*tk s:=hi.1
     have h2:((2*tk s:Nat):Int)≤fg (⟨t,t',!own,true⟩:Iv):=hi.2
     by_cases e:tk s=tk t
     · have e1:=(hs.inj ht).1 e
       subst e1
       rcases hbv with ⟨eo,_⟩ | ⟨eo,e2⟩
       · obtain ⟨o1,o2,o3,o4,o5⟩:=hown eo
         exact ⟨x - 1,by omega,by rw [o2,kH],o3⟩
       · omega
     · refine ⟨x,by omega,?_,R.refl s hs _ hDf⟩
       rw [hx,pz]; omega
   · have h1:eW (⟨t,t',!own,true⟩:Iv)≤2*q+1:=hi.1
     have h2:((2*q+1:Nat):Int)≤fg (⟨t,t',!own,true⟩:Iv):=hi.2
     refine ⟨x,by omega,?_,rfl⟩
     rw [hx,pz]; omega
   · rw [hx,pz] at hi
     refine ⟨⟨?_,?_⟩,R.refl s hs _ hDf⟩
     · show eW (⟨t,t',!own,true⟩:Iv)≤_
       omega
     · show _≤fg (⟨t,t',!own,true⟩:Iv)
       omega
   · rw [hx,pz] at hi
     refine ⟨⟨?_,?_⟩,rfl⟩
     · show eW (⟨t,t',!own,true⟩:Iv)≤_
       omega
     · show _≤fg (⟨t,t',!own,true⟩:Iv)
       omega
   · have e:t=s:=hlo.symm.trans hl.2.2.1
     subst e
     obtain ⟨_,e2⟩:=yL hL hxl ht hx (by omega) hi
     have eo:own=true:=ho.2 ⟨h0,by rw [e2]; rfl,by rw [e2]; rfl,hl.1⟩
     refine ⟨⟨?_,?_⟩,hl.2.2.2⟩
     · show eW (⟨t,t',!own,true⟩:Iv)≤_
       rcases hbv with ⟨_,e3⟩ | ⟨e3,_⟩
       · omega
       · rw [eo] at e3; cases e3
     · show _≤fg (⟨t,t',!own,true⟩:Iv)
       omega
theorem ni_all [K:Key] (R:Ru D same red) (heq:∀ a b,eqf a b=true→a=b) (hL:Ats D L):∀ x,x≤L.length→NI eqf same red D L (fL (dT eqf same red L) [] x) x
 | 0,_=>⟨⟨fun _ h=>(by cases h),List.Pairwise.nil,fun _ h=>(by cases h),fun _ h=>(by cases h)⟩,fun _ h=>(by cases h),fun _ h=>(by cases h),fun _ _ _ h=>(by cases h),fun _ _ h=>(by cases h),fun _ _ _ h=>(by omega),fun _ _ h=>(by omega),fun h=>(by omega)⟩
 | x+1,hx=>by
  have h:=ni_all R heq hL x (by omega)
  show NI eqf same red D L (dT eqf same red L (fL (dT eqf same red L) [] x) x) (x+1)
  rcases (hL.at_ x hx).2 with ⟨t,ht,e⟩ | ⟨t,t',ht,ht',hlt,e⟩
  · exact ni_point R hL hx ht e h
  · exact ni_gap R heq hL hx ht ht' hlt e h
structure Sem [K:Key] (same:α→α→GR→Bool) (n N:List (U α)):Prop where
 s1:∀ t,Tm t→∀ u∈N,inU u.iv (2*tk t)→∃ w∈n,inU w.iv (2*tk t)∧same u.f w.f t=true
 s2:∀ q,∀ u∈N,inU u.iv (2*q+1)→∃ w∈n,inU w.iv (2*q+1)∧u.f=w.f
 c1:∀ t,Tm t→∀ w∈n,inU w.iv (2*tk t)→∃ u∈N,inU u.iv (2*tk t)∧same u.f w.f t=true
 c2:∀ q,∀ w∈n,inU w.iv (2*q+1)→∃ u∈N,inU u.iv (2*q+1)∧u.f=w.f
omit [Inhabited α] in
theorem at_f {u a:U α} (h:a∈atU u):a.f=u.f:=by
 unfold atU at h
 cases h1:u.iv.openLo <;> cases h2:aM u.iv <;> cases h3:u.iv.openHi <;> rw [h1,h2,h3] at h <;> simp at h <;> (try rcases h with h | h | h) <;> (try rcases h with h | h) <;> (try subst h) <;> first | rfl | (exact absurd h (by simp)) | skip
omit [Inhabited α] in
theorem cov [K:Key] {u:U α} (hw:Wv u.iv) {q:Nat}:inU u.iv q↔∃ a∈atU u,inU a.iv q:=by
 have hf:eW u.iv=2*tk u.iv.lo+(bif u.iv.openLo then 1 else 0):=rfl
 have hl:fg u.iv=2*(tk u.iv.hi:Int) - (bif u.iv.openHi then 1 else 0):=rfl
 have hwl:=hw.2.1
 by_cases hi:u.iv.lo=u.iv.hi
 · obtain ⟨o1,o2⟩:=hw.2.2 (by rw [hi])
   have ea:atU u=[ptU u.iv.lo u.f]:=by
    unfold atU aM
    rw [o1,decide_eq_true hi]; rfl
   rw [ea]
   rw [o1] at hf; rw [o2] at hl
   have hf:eW u.iv=2*tk u.iv.lo+0:=hf
   have hl:fg u.iv=2*(tk u.iv.hi:Int) - 0:=hl
   rw [← hi] at hl
   simp only [List.mem_singleton,exists_eq_left,kH]
   unfold inU
   omega
 · have hini:aM u.iv=false:=decide_eq_false hi
   have hlt:tk u.iv.lo < tk u.iv.hi:=by
    by_cases e:tk u.iv.lo=tk u.iv.hi
    · exact absurd ((hw.1.1.inj hw.1.2).1 e) hi
    · omega
   unfold atU
   rw [hini]
   unfold inU
   rw [hf,hl]
   cases u.iv.openLo <;> cases u.iv.openHi <;> simp only [cond_true,cond_false,List.nil_append,List.cons_append,List.mem_cons,List.not_mem_nil,or_false,exists_eq_or_imp,exists_eq_left] <;>
    (have h1:=@kH α _ u.iv.lo u.f q; have h2:=@pz α _ u.iv.lo u.iv.hi u.f q; have h3:=@kH α _ u.iv.hi u.f q; unfold inU at h1 h2 h3; simp only [h1,h2,h3]; omega)
omit [Inhabited α] in
theorem abc [K:Key] {u a:U α} (hw:Wv u.iv) (hD:D u.f) (h:a∈atU u):Atm D a∧eW u.iv≤eW a.iv∧fg a.iv≤fg u.iv:=by
 have hf:=at_f h
 have hA:Atm D a:=by
  refine ⟨by rw [hf]; exact hD,?_⟩
  rw [hf]
  unfold atU at h
  rcases List.mem_append.1 h with h | h
  · cases ho:u.iv.openLo <;> rw [ho] at h
    · exact .inl ⟨_,hw.1.1,List.mem_singleton.1 h⟩
    · cases h
  · cases hi:aM u.iv <;> rw [hi] at h
    · rcases List.mem_cons.1 h with h | h
      · have hne:u.iv.lo≠u.iv.hi:=of_decide_eq_false hi
        refine .inr ⟨_,_,hw.1.1,hw.1.2,?_,h⟩
        have:=hw.2.1
        by_cases e:tk u.iv.lo=tk u.iv.hi
        · exact absurd ((hw.1.1.inj hw.1.2).1 e) hne
        · omega
      · cases ho:u.iv.openHi <;> rw [ho] at h
        · exact .inl ⟨_,hw.1.2,List.mem_singleton.1 h⟩
        · cases h
    · cases h
 refine ⟨hA,?_,?_⟩
 · exact ((cov hw).2 ⟨a,h,Nat.le_refl _,hA.le⟩).1
 · have h0:∃ k:Nat,(k:Int)=fg a.iv:=⟨(fg a.iv).toNat,by have:=hA.le; omega⟩
   obtain ⟨k,hk⟩:=h0
   have:=((cov hw).2 ⟨a,h,(by have:=hA.le; omega:eW a.iv≤k),(by omega)⟩).2
   omega
theorem ats_of [K:Key] {n:List (U α)} (hw:∀ u∈n,Wv u.iv∧D u.f) (ho:n.Pairwise fun a b=>fg a.iv < (eW b.iv:Int)):Ats D (n.flatMap atU):=by
 refine ⟨fun k hk=>?_,fun i j hij hj=>?_⟩
 · have hm:gt (n.flatMap atU) k∈n.flatMap atU:=by rw [gF hk]; exact List.getElem_mem _
   obtain ⟨u,hu,ha⟩:=List.mem_flatMap.1 hm
   exact (abc (hw u hu).1 (hw u hu).2 ha).1
 · have hp:(n.flatMap atU).Pairwise fun a b=>fg a.iv < (eW b.iv:Int):=by
    rw [List.pairwise_flatMap]
    refine ⟨fun u hu=>?_,ho.imp_of_mem fun {a b} ha hb h x hx y hy=>?_⟩
    · have hwu:=(hw u hu).1
      have hlt:u.iv.lo≠u.iv.hi→tk u.iv.lo < tk u.iv.hi:=fun hi=>by
       have:=hwu.2.1
       by_cases e:tk u.iv.lo=tk u.iv.hi
       · exact absurd ((hwu.1.1.inj hwu.1.2).1 e) hi
       · omega
      have p1:eW (ptU u.iv.lo u.f).iv=2*tk u.iv.lo:=rfl
      have p2:fg (ptU u.iv.lo u.f).iv=2*(tk u.iv.lo:Int) - 0:=rfl
      have p3:eW (ptU u.iv.hi u.f).iv=2*tk u.iv.hi:=rfl
      have p4:eW (mP u.iv.lo u.iv.hi u.f).iv=2*tk u.iv.lo+1:=rfl
      have p5:fg (mP u.iv.lo u.iv.hi u.f).iv=2*(tk u.iv.hi:Int) - 1:=rfl
      unfold atU
      cases hi:aM u.iv with
      | true=>cases u.iv.openLo <;> simp
      | false =>
       have:=hlt (of_decide_eq_false hi)
       cases u.iv.openLo <;> cases u.iv.openHi <;> simp <;> omega
    · have a1:=(abc (hw a ha).1 (hw a ha).2 hx).2.2
      have a2:=(abc (hw b hb).1 (hw b hb).2 hy).2.1
      omega
   have:=List.pairwise_iff_getElem.1 hp i j (by omega) hj hij
   rw [gF (by omega),gF hj]
   exact this
theorem sem_loop [K:Key] {n:List (U α)} (R:Ru D same red) (heq:∀ a b,eqf a b=true→a=b) (hw:∀ u∈n,Wv u.iv∧D u.f) (ho:n.Pairwise fun a b=>fg a.iv < (eW b.iv:Int)) :
 NF eqf same red (fL (dT eqf same red (n.flatMap atU)) [] (n.flatMap atU).length)∧(∀ u∈fL (dT eqf same red (n.flatMap atU)) [] (n.flatMap atU).length,D u.f)∧Sem same n (fL (dT eqf same red (n.flatMap atU)) [] (n.flatMap atU).length):=by
 have hL:=ats_of hw ho
 have h:=ni_all (eqf:=eqf) R heq hL _ (Nat.le_refl _)
 generalize fL (dT eqf same red (n.flatMap atU)) [] (n.flatMap atU).length=N at h
 have inn:∀ {k q},k < (n.flatMap atU).length→inU (gt (n.flatMap atU) k).iv q→∃ w∈n,inU w.iv q∧w.f=(gt (n.flatMap atU) k).f:=fun {k q} hk hi=>by
  have hm:gt (n.flatMap atU) k∈n.flatMap atU:=by rw [gF hk]; exact List.getElem_mem _
  obtain ⟨u,hu,ha⟩:=List.mem_flatMap.1 hm
  exact ⟨u,hu,(cov (hw u hu).1).2 ⟨_,ha,hi⟩,(at_f ha).symm⟩
 have out_:∀ {w q},w∈n→inU w.iv q→∃ k,k < (n.flatMap atU).length∧inU (gt (n.flatMap atU) k).iv q∧w.f=(gt (n.flatMap atU) k).f:=fun {w q} hw_ hi=>by
  obtain ⟨a,ha,h1⟩:=(cov (hw w hw_).1).1 hi
  have hm:a∈n.flatMap atU:=List.mem_flatMap.2 ⟨w,hw_,ha⟩
  obtain ⟨k,hk,e⟩:=List.getElem_of_mem hm
  exact ⟨k,hk,by rw [gF hk,e]; exact h1,by rw [gF hk,e]; exact (at_f ha).symm⟩
 refine ⟨h.nf,h.dd,fun t ht u hu hi=>?_,fun q u hu hi=>?_,fun t ht w hw_ hi=>?_,fun q w hw_ hi=>?_⟩
 · obtain ⟨k,h1,h2,h3⟩:=h.s1 t ht u hu hi
   obtain ⟨w,hw_,h4,h5⟩:=inn h1 h2
   exact ⟨w,hw_,h4,by rw [h5]; exact h3⟩
 · obtain ⟨k,h1,h2,h3⟩:=h.s2 q u hu hi
   obtain ⟨w,hw_,h4,h5⟩:=inn h1 h2
   exact ⟨w,hw_,h4,by rw [h5]; exact h3⟩
 · obtain ⟨k,h1,h2,h3⟩:=out_ hw_ hi
   rcases h.c1 t ht k h1 h2 with ⟨u,hu,h4,h5⟩ | ⟨_,h4⟩
   · exact ⟨u,hu,h4,by rw [h3]; exact h5⟩
   · exact absurd h4.2.1 (Nat.lt_irrefl _)
 · obtain ⟨k,h1,h2,h3⟩:=out_ hw_ hi
   obtain ⟨u,hu,h4,h5⟩:=h.c2 q k h1 h2
   exact ⟨u,hu,h4,by rw [h3]; exact h5⟩
end
end Go.Sx
