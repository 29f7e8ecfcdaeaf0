import Derived.Test.YtbenbmdkhcfcfaaGreatDoorM3
import Derived.Test.YtbenbmdkhcfcfaaGreatDoorProg
import Derived.Test.YtbenbmdkhcfcfaaGreatDoorY
set_option linter.unusedVariables false
set_option linter.unusedSimpArgs false
namespace Go.Sx
section
variable {α:Type} [Inhabited α] (eqf:α→α→Bool) (same:α→α→GR→Bool) (red:α→GR→α)
def Lk (x y:U α):Prop :=
 x.iv.hi=y.iv.lo →
  (x.iv.lo=x.iv.hi→same y.f x.f y.iv.lo=false) ∧
  (x.iv.lo≠x.iv.hi→(x.iv.openHi=false→eqf x.f y.f=false)∧(x.iv.openHi=true→y.iv.openLo=false→same x.f y.f y.iv.lo=false))
structure NF (n:List (U α)):Prop where
 wv:∀ x∈n,Wv x.iv
 ord:n.Pairwise fun a b=>ec a.iv < (dL b.iv:Int)
 lk:∀ i,i+1 < n.length→Lk eqf same (gt n i) (gt n (i+1))
 inst:∀ x∈n,x.iv.lo=x.iv.hi→red x.f x.iv.lo=x.f
variable {eqf same red} {L out:List (U α)} {x:Nat} {t t':GR} {f:α}
theorem wW (hx:gt L x=ptU t f) (hb:0 < out.length→(lst out).iv.hi=t→(lst out).iv.lo≠(lst out).iv.hi→same (lst out).f f t=false) (hn:x+1 < L.length) (h2:(gt L (x+1)).iv.lo=t) (h3:same (gt L (x+1)).f f t=true) :
 du eqf same red L out x=out:=by
 have hp:ku same red L out x=out:=by
  unfold ku
  rw [hx]
  show (bif (((decide (((x+1:Nat):Int) < (L.length:Int))) && (decide ((gt L (x+1)).iv.lo=t))) && (same ((gt L (x+1)).f) f t)) then out else _)=out
  rw [decide_eq_true (by omega:((x+1:Nat):Int) < (L.length:Int)),h2,decide_eq_true rfl,h3]
  rfl
 unfold du
 rw [hp,hx]
 show (bif tC L out x then bif (!(decide (t=t))) then _ else bif (same (gt out (out.length - 1)).f f t) then _ else out else bif (!(decide (t=t))) then _ else out)=out
 rw [decide_eq_true rfl]
 cases hbf:tC L out x with
 | false=>rfl
 | true =>
  obtain ⟨b1,b2,b3⟩:=iY.1 hbf
  rw [hx] at b2
  have hs:same (gt out (out.length - 1)).f f t=false:=hb b1 b2 b3
  rw [hs]; rfl
theorem sn_app (hx:gt L x=ptU t f) (hb:0 < out.length→(lst out).iv.hi=t→(lst out).iv.lo≠(lst out).iv.hi→same (lst out).f f t=false) (hn:x+1 < L.length→(gt L (x+1)).iv.lo=t→same (gt L (x+1)).f f t=false) :
 du eqf same red L out x=out++[ptU t (red f t)]:=by
 have hp:ku same red L out x=out++[ptU t (red f t)]:=by
  unfold ku
  rw [hx]
  show (bif (((decide (((x+1:Nat):Int) < (L.length:Int))) && (decide ((gt L (x+1)).iv.lo=t))) && (same ((gt L (x+1)).f) f t)) then out else out++[ptU t (red f t)])=_
  cases hq:(((decide (((x+1:Nat):Int) < (L.length:Int))) && (decide ((gt L (x+1)).iv.lo=t))) && (same ((gt L (x+1)).f) f t)) with
  | false=>rfl
  | true =>
   simp only [Bool.and_eq_true,decide_eq_true_eq] at hq
   rw [hn og hq.1.2] at hq
   exact absurd hq.2 DC
 unfold du
 rw [hp,hx]
 show (bif tC L out x then bif (!(decide (t=t))) then _ else bif (same (gt out (out.length - 1)).f f t) then _ else _ else bif (!(decide (t=t))) then _ else _)=_
 rw [decide_eq_true rfl]
 cases hbf:tC L out x with
 | false=>rfl
 | true =>
  obtain ⟨b1,b2,b3⟩:=iY.1 hbf
  rw [hx] at b2
  have hs:same (gt out (out.length - 1)).f f t=false:=hb b1 b2 b3
  rw [hs]; rfl
theorem wX (hx:gt L x=m7 t t' f) (hne:t≠t') (hb:0 < out.length→(lst out).iv.hi=t→(lst out).iv.lo≠(lst out).iv.hi→(lst out).iv.openHi=false→eqf (lst out).f f=false)
 (own:Bool) (ho:own=true↔(0 < x∧(gt L (x - 1)).iv.lo=(gt L (x - 1)).iv.hi∧(gt L (x - 1)).iv.lo=t∧lr out t=false)) :
 du eqf same red L out x=out++[⟨⟨t,t',!own,true⟩,f⟩]:=by
 have hp:jo L out x=out++[⟨⟨t,t',!own,true⟩,f⟩]:=by
  unfold jo
  rw [hx]
  have hc:((((decide ((x:Int)>0)) && (aN ((gt L (x - 1)).iv))) && (decide (((gt L (x - 1)).iv).lo=t))) && (!(lr out t)))=own:=by
   cases own with
   | true =>
    obtain ⟨a1,a2,a3,a4⟩:=ho.1 rfl
    rw [a4,decide_eq_true a3,decide_eq_true (by omega:(x:Int)>0)]
    unfold aN
    rw [decide_eq_true a2]; rfl
   | false =>
    cases hq:((((decide ((x:Int)>0)) && (aN ((gt L (x - 1)).iv))) && (decide (((gt L (x - 1)).iv).lo=t))) && (!(lr out t))) with
    | false=>rfl
    | true =>
     simp only [Bool.and_eq_true,decide_eq_true_eq,Bool.not_eq_true'] at hq
     unfold aN at hq
     exact absurd (ho.2 ⟨by omega,of_decide_eq_true hq.1.1.2,hq.1.2,hq.2⟩) DC
  show (bif ((((decide ((x:Int)>0)) && (aN ((gt L (x - 1)).iv))) && (decide (((gt L (x - 1)).iv).lo=t))) && (!(lr out t))) then _ else _)=_
  rw [hc]
  cases own <;> rfl
 unfold du
 rw [hp,hx]
 show (bif tC L out x then bif (!(decide (t=t'))) then bif ((!((gt out (out.length - 1)).iv).openHi) && (eqf ((gt out (out.length - 1)).f) f)) then _ else _ else _ else bif (!(decide (t=t'))) then _ else _)=_
 rw [decide_eq_false hne]
 cases hbf:tC L out x with
 | false=>rfl
 | true =>
  obtain ⟨b1,b2,b3⟩:=iY.1 hbf
  rw [hx] at b2
  cases hoh:(gt out (out.length - 1)).iv.openHi with
  | true=>rfl
  | false =>
   rw [show eqf (gt out (out.length - 1)).f f=false from hb b1 b2 b3 hoh]; rfl
theorem wY (hx:gt L x=ptU t f) (h0:0 < out.length) (h1:(lst out).iv.hi=t) (h2:(lst out).iv.lo≠(lst out).iv.hi) (hs:same (lst out).f f t=true) :
 du eqf same red L out x=out.set (out.length - 1) ⟨⟨(lst out).iv.lo,(lst out).iv.hi,(lst out).iv.openLo,false⟩,(lst out).f⟩:=by
 unfold du
 rw [iY.2 ⟨h0,by rw [hx]; exact h1,h2⟩,hx]
 show (bif true then bif (!(decide (t=t))) then _ else bif (same (gt out (out.length - 1)).f f t) then _ else _ else _)=_
 rw [decide_eq_true rfl,show same (gt out (out.length - 1)).f f t=true from hs]
 rfl
omit [Inhabited α] in
theorem pg {p:List (U α)} {y z:U α}:(p++[y]).set ((p++[y]).length - 1) z=p++[z]:=by
 rw [List.length_append,List.length_singleton,Nat.add_sub_cancel,List.set_append_right _ _ (Nat.le_refl _),Nat.sub_self]; rfl
theorem f5 {p:List (U α)} (h:0 < p.length):lst p∈p:=by
 unfold lst
 rw [fL og]; exact List.getElem_mem _
omit [Inhabited α] in
theorem atU_ne {u:U α}:atU u=[]→aN u.iv=true∧u.iv.openLo=true:=by
 unfold atU
 cases u.iv.openLo <;> cases aN u.iv <;> simp
theorem nf_fix {n:List (U α)} (h:NF eqf same red n) (hr:∀ x∈n,∀ t,Tm t→same x.f x.f t=true) :
 ∀ (s p:List (U α)),n=p++s→et (du eqf same red (n.flatMap atU)) [] (p.flatMap atU).length=p→et (du eqf same red (n.flatMap atU)) [] (n.flatMap atU).length=n
 | [],p,hn,hp=>by
  rw [List.append_nil] at hn
  rw [← hn] at hp
  exact hp
 | y::s,p,hn,hp=>by
  refine nf_fix h hr s (p++[y]) (by rw [hn]; simp) ?_
  have hL:n.flatMap atU=p.flatMap atU++(atU y++s.flatMap atU):=by rw [hn]; simp
  have hy:y∈n:=by rw [hn]; simp
  have hwy:=h.wv y hy
  have hc:((p++[y]).flatMap atU).length=(p.flatMap atU).length+(atU y).length:=by simp
  rw [hc]
  generalize hcc:(p.flatMap atU).length=c at *
  generalize hLL:n.flatMap atU=L at *
  have hLl:L.length=c+((atU y).length+(s.flatMap atU).length):=by rw [hL,List.length_append,List.length_append,hcc]
  have hI:∀ k,et (du eqf same red L) [] (c+(k+1))=du eqf same red L (et (du eqf same red L) [] (c+k)) (c+k):=fun _=>rfl
  have hprev:0 < p.length→lst p∈n∧ec (lst p).iv < (dL y.iv:Int)∧Lk eqf same (lst p) y:=fun h0=>by
   have e1:gt n (p.length - 1)=lst p:=by
    rw [hn]; unfold lst; rw [ie og]
   have e2:gt n (p.length - 1+1)=y:=by
    rw [show p.length - 1+1=p.length by omega,hn]; exact ow rfl
   have hl:=h.lk (p.length - 1) (by rw [hn]; simp; omega)
   rw [e1,e2] at hl
   have ho:=h.ord
   rw [hn,List.pairwise_append] at ho
   exact ⟨by rw [hn]; exact List.mem_append_left _ (f5 h0),ho.2.2 _ (f5 h0) y (List.mem_cons_self ..),hl⟩
  have hat:0 < c→0 < p.length∧((lst p).iv.lo≠(lst p).iv.hi→(lst p).iv.openHi=true→gt L (c - 1)=m7 (lst p).iv.lo (lst p).iv.hi (lst p).f) ∧
   (((lst p).iv.lo=(lst p).iv.hi∨(lst p).iv.openHi=false)→gt L (c - 1)=ptU (lst p).iv.hi (lst p).f):=fun h0=>by
   have hpl:0 < p.length:=by
    cases p with
    | nil =>
     have hcc:0=c:=hcc
     omega
    | cons _ _=>simp
   obtain ⟨q,z,rfl⟩:∃ q z,p=q++[z]:=⟨p.dropLast,p.getLast (by intro e; rw [e] at hpl; simp at hpl),(List.dropLast_concat_getLast _).symm⟩
   have hzm:z∈n:=by rw [hn]; simp
   have hwz:=h.wv z hzm
   rw [jN]
   refine ⟨hpl,?_⟩
   have hz:gt L (c - 1)=gt (atU z) ((atU z).length - 1)∨atU z=[]:=by
    by_cases e:atU z=[]
    ·exact .inr e
    ·left
     have hl0:0 < (atU z).length:=List.length_pos_iff.2 e
     have e3:c=(q.flatMap atU).length+(atU z).length:=by rw [← hcc]; simp
     have e4:L=q.flatMap atU++(atU z++(atU y++s.flatMap atU)):=by rw [hL]; simp
     rw [e4,e3]
     have e5:gt (q.flatMap atU++(atU z++(atU y++s.flatMap atU))) ((q.flatMap atU).length+(atU z).length - 1)=gt (atU z++(atU y++s.flatMap atU)) ((atU z).length - 1):=by
      rw [show (q.flatMap atU).length+(atU z).length - 1=(q.flatMap atU).length+((atU z).length - 1) by omega]
      simp [gt,List.getD,List.getElem?_append_right]
     rw [e5,ie og]
   have hz:gt L (c - 1)=gt (atU z) ((atU z).length - 1):=by
    rcases hz with hz | hz
    ·exact hz
    ·obtain ⟨a1,a2⟩:=atU_ne hz
     unfold aN at a1
     have:=(hwz.2.2 (by rw [of_decide_eq_true a1])).1
     rw [this] at a2; cases a2
   rw [hz]
   refine ⟨fun a1 a2=>?_,fun a1=>?_⟩
   ·unfold atU aN
    rw [decide_eq_false a1,a2]
    cases z.iv.openLo <;> rfl
   ·by_cases e:z.iv.lo=z.iv.hi
    ·have e1:=(hwz.2.2 (by rw [e])).1
     unfold atU aN
     rw [decide_eq_true e,e1,← e]
     rfl
    ·rcases a1 with a1 | a1
     ·exact absurd a1 e
     ·unfold atU aN
      rw [decide_eq_false e,a1]
      cases z.iv.openLo <;> rfl
  have hnx:c+(atU y).length < L.length→∃ z∈n,gt L (c+(atU y).length)=gt (atU z) 0∧(gt (atU z) 0).iv.lo=z.iv.lo∧(gt (atU z) 0).f=z.f∧ec y.iv < (dL z.iv:Int)∧Lk eqf same y z:=fun h0=>by
   cases s with
   | nil =>
    have e0:(List.flatMap (atU (α:=α)) []).length=0:=rfl
    rw [e0] at hLl
    omega
   | cons z s =>
    have hzm:z∈n:=by rw [hn]; simp
    have hwz:=h.wv z hzm
    have ho:=h.ord
    rw [hn,List.pairwise_append,List.pairwise_cons] at ho
    have hlz:=h.lk p.length (by rw [hn]; simp)
    have e1:gt n p.length=y:=by rw [hn]; exact ow rfl
    have e2:gt n (p.length+1)=z:=by rw [hn,show p++y::z::s=(p++[y])++z::s by simp]; exact ow (by simp)
    rw [e1,e2] at hlz
    have hne:atU z≠[]:=fun e=>by
     obtain ⟨a1,a2⟩:=atU_ne e
     unfold aN at a1
     have:=(hwz.2.2 (by rw [of_decide_eq_true a1])).1
     rw [this] at a2; cases a2
    have e3:gt L (c+(atU y).length)=gt (atU z) 0:=by
     have e4:L=(p.flatMap atU++atU y)++(atU z++s.flatMap atU):=by rw [hL,List.flatMap_cons,List.append_assoc]
     rw [e4]
     have hl0:0 < (atU z).length:=List.length_pos_iff.2 hne
     have:c+(atU y).length=(p.flatMap atU++atU y).length+0:=by rw [List.length_append,hcc,Nat.add_zero]
     rw [this]
     have:∀ (A B:List (U α)),gt (A++B) (A.length+0)=gt B 0:=fun A B=>by simp [gt,List.getD,List.getElem?_append_right]
     rw [this,ie hl0]
    refine ⟨z,hzm,e3,?_,?_,ho.2.1.1 z (List.mem_cons_self ..),hlz⟩
    ·revert hne
     unfold atU
     intro hne
     revert hne
     cases z.iv.openLo <;> cases aN z.iv <;> first | (intro _; rfl) | (intro hne; exact absurd rfl hne)
    ·revert hne
     unfold atU
     intro hne
     revert hne
     cases z.iv.openLo <;> cases aN z.iv <;> first | (intro _; rfl) | (intro hne; exact absurd rfl hne)
  have hgt:∀ k,k < (atU y).length→gt L (c+k)=gt (atU y) k:=fun k hk=>by
   rw [hL,← hcc]
   have:∀ (A B:List (U α)),gt (A++B) (A.length+k)=gt B k:=fun A B=>by simp [gt,List.getD,List.getElem?_append_right]
   rw [this,ie hk]
  have hlen:c+(atU y).length≤L.length:=by omega
  have hpf:0 < p.length→(lst p).iv.hi=y.iv.lo→(lst p).iv.lo≠(lst p).iv.hi→y.iv.openLo=false→(lst p).iv.openHi=true∧same (lst p).f y.f y.iv.lo=false:=fun h0 h1 h2 h3=>by
   obtain ⟨_,a2,a3⟩:=hprev h0
   have:(lst p).iv.openHi=true:=by
    cases e:(lst p).iv.openHi with
    | true=>rfl
    | false =>
     unfold ec dL at a2
     rw [e,h3,h1] at a2
     simp at a2
   exact ⟨this,((a3 h1).2 h2).2 this h3⟩
  by_cases hi:y.iv.lo=y.iv.hi
  ·
   obtain ⟨o1,o2⟩:=hwy.2.2 (by rw [hi])
   have ea:atU y=[ptU y.iv.lo y.f]:=by
    unfold atU aN
    rw [o1,decide_eq_true hi]; rfl
   have hx0:gt L (c+0)=ptU y.iv.lo y.f:=by rw [hgt 0 (by rw [ea]; simp),ea]; rfl
   rw [ea] at hnx ⊢
   show et _ [] (c+(0+1))=_
   rw [hI 0]
   show du eqf same red L (et _ [] c) (c+0)=_
   rw [hp,sn_app hx0 (fun a1 a2 a3=>(hpf a1 a2 a3 o1).2) fun a1 a2=>?_,h.inst y hy hi]
   ·have:ptU y.iv.lo y.f=y:=by
     obtain ⟨⟨lo,hi',ol,oh⟩,f⟩:=y
     simp only at hi o1 o2
     unfold ptU
     simp only
     rw [o1,o2,← hi]
    rw [this]
   ·obtain ⟨z,hz,e1,e2,e3,e4,e5⟩:=hnx a1
    have a2:(gt L (c+1)).iv.lo=y.iv.lo:=a2
    have e1:gt L (c+1)=gt (atU z) 0:=e1
    rw [e1,e2] at a2
    show same (gt L (c+1)).f y.f y.iv.lo=false
    rw [e1,e3]
    have:=(e5 (by rw [a2,hi])).1 hi
    rwa [a2] at this
  ·
   have hini:aN y.iv=false:=decide_eq_false hi
   have hE:∀ (k:Nat) (o:List (U α)) (b:Bool),et (du eqf same red L) [] (c+k)=p++[⟨⟨y.iv.lo,y.iv.hi,b,true⟩,y.f⟩]→b=y.iv.openLo→(y.iv.openHi=false→gt L (c+k)=ptU y.iv.hi y.f) →
    et (du eqf same red L) [] (c+(k+(bif y.iv.openHi then 0 else 1)))=p++[y]:=fun k o b e1 e2 e3=>by
    cases ho:y.iv.openHi with
    | true =>
     show et _ [] (c+k)=_
     rw [e1,e2,← ho]
    | false =>
     show et _ [] (c+(k+1))=_
     rw [hI k,e1,wY (e3 ho) (by simp) (by rw [jN]) (by rw [jN]; exact hi) (by rw [jN]; exact hr y hy _ hwy.1.2),jN,pg,e2]
     show p++[(⟨⟨y.iv.lo,y.iv.hi,y.iv.openLo,false⟩,y.f⟩:U α)]=_
     rw [← ho]
   cases hol:y.iv.openLo with
   | false =>
    have ea:atU y=ptU y.iv.lo y.f::m7 y.iv.lo y.iv.hi y.f::(bif y.iv.openHi then [] else [ptU y.iv.hi y.f]):=by
     unfold atU; rw [hol,hini]; rfl
    have hl2:(atU y).length=2+(bif y.iv.openHi then 0 else 1):=by rw [ea]; cases y.iv.openHi <;> rfl
    have hx0:gt L (c+0)=ptU y.iv.lo y.f:=by rw [hgt 0 (by rw [hl2]; omega),ea]; rfl
    have hx1:gt L (c+1)=m7 y.iv.lo y.iv.hi y.f:=by rw [hgt 1 (by rw [hl2]; omega),ea]; rfl
    rw [hl2]
    have st1:et (du eqf same red L) [] (c+1)=p:=by
     show du eqf same red L (et _ [] c) (c+0)=_
     rw [hp]
     exact wW hx0 (fun a1 a2 a3=>(hpf a1 a2 a3 hol).2) (by rw [hl2] at hlen; omega) (by show (gt L (c+1)).iv.lo=_; rw [hx1]; rfl) (by show same (gt L (c+1)).f _ _=true; rw [hx1]; exact hr y hy _ hwy.1.1)
    refine hE 2 [] false ?_ hol.symm (fun e=>by rw [hgt 2 (by rw [hl2,e]; decide),ea,e]; rfl)
    show et _ [] (c+(1+1))=_
    rw [hI 1,st1]
    refine wX hx1 hi (fun a1 a2 a3 a4=>by have:=(hpf a1 a2 a3 hol).1; rw [this] at a4; cases a4) true ⟨fun _=>⟨by omega,?_,?_,?_⟩,fun _=>rfl⟩
    ·rw [Nat.add_sub_cancel]; show (gt L (c+0)).iv.lo=(gt L (c+0)).iv.hi; rw [hx0]; rfl
    ·rw [Nat.add_sub_cancel]; show (gt L (c+0)).iv.lo=_; rw [hx0]; rfl
    ·cases hh:lr p y.iv.lo with
     | false=>rfl
     | true =>
      obtain ⟨b1,b2,b3⟩:=ic.1 hh
      obtain ⟨_,a2,_⟩:=hprev b1
      unfold ec dL at a2
      rw [b3,b2,hol] at a2
      simp at a2
   | true =>
    have ea:atU y=m7 y.iv.lo y.iv.hi y.f::(bif y.iv.openHi then [] else [ptU y.iv.hi y.f]):=by
     unfold atU; rw [hol,hini]; rfl
    have hl2:(atU y).length=1+(bif y.iv.openHi then 0 else 1):=by rw [ea]; cases y.iv.openHi <;> rfl
    have hx0:gt L (c+0)=m7 y.iv.lo y.iv.hi y.f:=by rw [hgt 0 (by rw [hl2]; omega),ea]; rfl
    rw [hl2]
    refine hE 1 [] true ?_ hol.symm (fun e=>by rw [hgt 1 (by rw [hl2,e]; decide),ea,e]; rfl)
    show et _ [] (c+(0+1))=_
    rw [hI 0]
    show du eqf same red L (et _ [] c) (c+0)=_
    rw [hp]
    refine wX hx0 hi (fun a1 a2 a3 a4=>(((hprev a1).2.2 a2).2 a3).1 a4) false ⟨fun e=>(by cases e),fun ⟨a1,a2,a3,a4⟩=>?_⟩
    rw [Nat.add_zero] at a2 a3
    obtain ⟨b1,b2,b3⟩:=hat og
    by_cases e:(lst p).iv.lo≠(lst p).iv.hi∧(lst p).iv.openHi=true
    ·rw [b2 e.1 e.2] at a2
     exact absurd a2 e.1
    ·have e':(lst p).iv.lo=(lst p).iv.hi∨(lst p).iv.openHi=false:=by
      by_cases e1:(lst p).iv.lo=(lst p).iv.hi
      ·exact .inl e1
      ·cases e2:(lst p).iv.openHi with
       | false=>exact .inr rfl
       | true=>exact absurd ⟨e1,e2⟩ e
     rw [b3 e'] at a3
     have a3:(lst p).iv.hi=y.iv.lo:=a3
     have hoh:(lst p).iv.openHi=false:=by
      rcases e' with e1 | e1
      ·exact ((h.wv _ (hprev b1).1).2.2 (by rw [e1])).2
      ·exact e1
     rw [ic.2 ⟨b1,a3,hoh⟩] at a4
     cases a4
end
end Go.Sx
namespace Go.Sx
section
variable {α:Type} [Inhabited α] {eqf:α→α→Bool} {same:α→α→GR→Bool} {red:α→GR→α} {A:List (At α)} {out:List (U α)} {i:Nat}
structure Ru (D:α→Prop) (same:α→α→GR→Bool) (red:α→GR→α):Prop where
 refl:∀ t,Tm t→∀ f,D f→same f f t=true
 symm:∀ t,Tm t→∀ f g,D f→D g→same f g t=true→same g f t=true
 trans:∀ t,Tm t→∀ f g h,D f→D g→D h→same f g t=true→same g h t=true→same f h t=true
 redD:∀ t,Tm t→∀ f,D f→D (red f t)
 redS:∀ t,Tm t→∀ f,D f→same (red f t) f t=true
 redR:∀ t,Tm t→∀ f,D f→red (red f t) t=red f t
theorem NF.snoc (h:NF eqf same red out) {y:U α} (hy:Wv y.iv) (hl:0 < out.length→ec (lst out).iv < (dL y.iv:Int)∧Lk eqf same (lst out) y) (hi:y.iv.lo=y.iv.hi→red y.f y.iv.lo=y.f):NF eqf same red (out++[y]):=by
 refine ⟨fun x hx=>?_,?_,fun j hj=>?_,fun x hx=>?_⟩
 ·rcases List.mem_append.1 hx with hx | hx
  ·exact h.wv x hx
  ·rw [List.mem_singleton.1 hx]; exact hy
 ·rw [List.pairwise_append]
  refine ⟨h.ord,List.pairwise_singleton _ _,fun a ha b hb=>?_⟩
  rw [List.mem_singleton.1 hb]
  have h0:0 < out.length:=List.length_pos_of_mem ha
  obtain ⟨k1,_⟩:=hl h0
  obtain ⟨q,hq⟩:=List.getElem_of_mem ha
  obtain ⟨hq1,hq2⟩:=hq
  by_cases e:q=out.length - 1
  ·have:a=lst out:=by
    unfold lst
    rw [fL og]
    subst e
    exact hq2.symm
   rw [this]; exact k1
  ·have:=List.pairwise_iff_getElem.1 h.ord q (out.length - 1) hq1 og og
   rw [hq2] at this
   have e2:out[out.length - 1]'(by omega)=lst out:=by unfold lst; rw [fL og]
   rw [e2] at this
   have:=(h.wv _ (f5 h0)).le
   omega
 ·rw [List.length_append,List.length_singleton] at hj
  by_cases e:j+1 < out.length
  ·rw [ie og,ie e]; exact h.lk j e
  ·have e1:j+1=out.length:=by omega
   rw [ie og,e1,rJ]
   have:=(hl og).2
   unfold lst at this
   rwa [show out.length - 1=j by omega] at this
 ·rcases List.mem_append.1 hx with hx | hx
  ·exact h.inst x hx
  ·rw [List.mem_singleton.1 hx]; exact hi
theorem NF.setl (h:NF eqf same red out) (h0:0 < out.length) {T:GR} {o:Bool} (hT:Tm T) (hlt:tk (lst out).iv.lo < tk T):NF eqf same red (out.set (out.length - 1) ⟨⟨(lst out).iv.lo,T,(lst out).iv.openLo,o⟩,(lst out).f⟩):=by
 obtain ⟨q,z,rfl⟩:∃ q z,out=q++[z]:=⟨out.dropLast,out.getLast (by intro e; rw [e] at h0; simp at h0),(List.dropLast_concat_getLast _).symm⟩
 rw [jN] at hlt ⊢
 rw [pg]
 have hz:=h.wv z (by simp)
 have hq:NF eqf same red q:=by
  have ho:=h.ord
  rw [List.pairwise_append] at ho
  refine ⟨fun x hx=>h.wv x (List.mem_append_left _ hx),ho.1,fun j hj=>?_,fun x hx=>h.inst x (List.mem_append_left _ hx)⟩
  have:=h.lk j (by simp; omega)
  rwa [ie og,ie hj] at this
 refine hq.snoc ⟨⟨hz.1.1,hT⟩,Nat.le_of_lt hlt,fun e=>?_⟩ (fun hq0=>?_) fun e=>?_
 ·have e:tk z.iv.lo=tk T:=e
  omega
 ·have ho:=h.ord
  rw [List.pairwise_append] at ho
  refine ⟨ho.2.2 _ (f5 hq0) z (by simp),?_⟩
  have:=h.lk (q.length - 1) (by simp; omega)
  rw [ie og,show q.length - 1+1=q.length by omega,rJ] at this
  exact this
 ·have e:z.iv.lo=T:=e
  rw [e] at hlt; omega
theorem b_pt (hg:(gt A i).gap=false) (hp:(gt A i).til=(gt A i).frm) (hh:(gt A i).has=true) :
 (mgd same A i→eR eqf same red A out i=out.set (out.length - 1) ⟨⟨(lst out).iv.lo,(lst out).iv.hi,(lst out).iv.openLo,false⟩,(lst out).f⟩) ∧
 (¬ mgd same A i→lft same A i→eR eqf same red A out i=out) ∧
 (¬ mgd same A i→¬ lft same A i→eR eqf same red A out i=out++[⟨⟨(gt A i).frm,(gt A i).frm,false,false⟩,red (gt A i).f (gt A i).frm⟩]):=by
 have hmb:¬ mgd same A i→((decide ((i:Int)>0) && (gt A (i - 1)).has) && same (gt A (i - 1)).f (gt A i).f (gt A i).frm)=false:=fun m=>by
  cases hq:((decide ((i:Int)>0) && (gt A (i - 1)).has) && same (gt A (i - 1)).f (gt A i).f (gt A i).frm) with
  | false=>rfl
  | true =>
   simp only [Bool.and_eq_true,decide_eq_true_eq] at hq
   exact absurd ⟨hh,by omega,hq.1.2,hq.2⟩ m
 refine ⟨fun ⟨_,m2,m3,m4⟩=>?_,fun m l=>?_,fun m l=>?_⟩
 ·unfold eR
  rw [hh,Bool.not_true,cond_false,hg,cond_false,decide_eq_true (by omega:(i:Int)>0),m3,m4,Bool.and_self,Bool.and_self,cond_true]
  rfl
 ·unfold eR
  rw [hh,Bool.not_true,cond_false,hg,cond_false,hmb m,cond_false,decide_eq_true (by have:=l.1; omega:((i+1:Nat):Int) < (A.length:Int)),l.2.1,l.2.2]
  rfl
 ·have hlb:(decide (((i+1:Nat):Int) < (A.length:Int)) && (gt A (i+1)).has && same (gt A (i+1)).f (gt A i).f (gt A i).frm)=false:=by
   cases hq:(decide (((i+1:Nat):Int) < (A.length:Int)) && (gt A (i+1)).has && same (gt A (i+1)).f (gt A i).f (gt A i).frm) with
   | false=>rfl
   | true =>
    simp only [Bool.and_eq_true,decide_eq_true_eq] at hq
    exact absurd ⟨by omega,hq.1.2,hq.2⟩ l
  unfold eR
  rw [hh,Bool.not_true,cond_false,hg,cond_false,hmb m,cond_false,hlb,hp]
  rfl
theorem b_gap (hg:(gt A (i+1)).gap=true) (hf:(gt A (i+1)).frm=(gt A i).frm) (hh:(gt A (i+1)).has=true) :
 (mgd same A i→eqf (gt A (i - 1)).f (gt A (i+1)).f=true→eR eqf same red A out (i+1)=out.set (out.length - 1) ⟨⟨(lst out).iv.lo,(gt A (i+1)).til,(lst out).iv.openLo,true⟩,(lst out).f⟩) ∧
 (mgd same A i→eqf (gt A (i - 1)).f (gt A (i+1)).f=false→eR eqf same red A out (i+1)=out++[⟨⟨(gt A i).frm,(gt A (i+1)).til,true,true⟩,(gt A (i+1)).f⟩]) ∧
 (¬ mgd same A i→eR eqf same red A out (i+1)=out++[⟨⟨(gt A i).frm,(gt A (i+1)).til,!((gt A i).has && same (gt A (i+1)).f (gt A i).f (gt A i).frm),true⟩,(gt A (i+1)).f⟩]):=by
 have hi2:(decide (((i+1:Nat):Int)≥2))=decide (0 < i):=decide_eq_decide.2 og
 refine ⟨fun ⟨m1,m2,m3,m4⟩ hq=>?_,fun ⟨m1,m2,m3,m4⟩ hq=>?_,fun m=>?_⟩
 ·unfold eR
  rw [hh,Bool.not_true,cond_false,hg,cond_true,hi2,decide_eq_true m2,show i+1 - 2=i - 1 by omega,Nat.add_sub_cancel,m3,m1,hf,m4,hq]
  rfl
 ·unfold eR
  rw [hh,Bool.not_true,cond_false,hg,cond_true,hi2,decide_eq_true m2,show i+1 - 2=i - 1 by omega,Nat.add_sub_cancel,m3,m1,hf,m4,hq]
  simp
 ·have hmb:((((decide (((i+1:Nat):Int)≥2)) && (gt A (i+1 - 2)).has) && (gt A (i+1 - 1)).has) && same (gt A (i+1 - 2)).f (gt A (i+1 - 1)).f (gt A (i+1)).frm)=false:=by
   cases hq:((((decide (((i+1:Nat):Int)≥2)) && (gt A (i+1 - 2)).has) && (gt A (i+1 - 1)).has) && same (gt A (i+1 - 2)).f (gt A (i+1 - 1)).f (gt A (i+1)).frm) with
   | false=>rfl
   | true =>
    rw [hi2,show i+1 - 2=i - 1 by omega,Nat.add_sub_cancel,hf] at hq
    simp only [Bool.and_eq_true,decide_eq_true_eq] at hq
    exact absurd ⟨hq.1.2,hq.1.1.1,hq.1.1.2,hq.2⟩ m
  unfold eR
  rw [hh,Bool.not_true,cond_false,hg,cond_true,hmb,Bool.false_and,cond_false]
  cases hp:(gt A (i+1 - 1)).has with
  | false=>rw [show (gt A i).has=false from hp,hf]; simp
  | true =>
   rw [hp,Bool.and_true] at hmb
   rw [hmb,show (gt A i).has=true from hp,hf]; simp
omit [Inhabited α] in
theorem rB {y z:U α} (h:z∈out.set (out.length - 1) y):z∈out∨z=y:=List.mem_or_eq_of_mem_set h
theorem uT {D:α→Prop} (R:Ru D same red) (heq:∀ a b,eqf a b=true→a=b) (hA:Turns tk A) (hT:∀ i,i < A.length→Tm (gt A i).frm∧Tm (gt A i).til) (hD:∀ i,i < A.length→(gt A i).has=true→D (gt A i).f) :
 ∀ i,i≤A.length→NF eqf same red (et (eR eqf same red A) [] i)∧∀ x∈et (eR eqf same red A) [] i,D x.f
 | 0,_=>⟨⟨fun _ h=>(by cases h),List.Pairwise.nil,fun i h=>absurd h (Nat.not_lt_zero _),fun _ h=>(by cases h)⟩,fun _ h=>by cases h⟩
 | i+1,hi=>by
  obtain ⟨hN,hDo⟩:=uT R heq hA hT hD i og
  obtain ⟨_,hE,hO⟩:=sP (same:=same) (red:=red) heq hA i og
  show NF eqf same red (eR eqf same red A (et (eR eqf same red A) [] i) i)∧∀ x∈eR eqf same red A (et (eR eqf same red A) [] i) i,D x.f
  generalize et (eR eqf same red A) [] i=out at *
  have hlD:0 < out.length→D (lst out).f:=fun h0=>hDo _ (f5 h0)
  cases hh:(gt A i).has with
  | false =>
   have:eR eqf same red A out i=out:=by unfold eR; rw [hh]; rfl
   rw [this]; exact ⟨hN,hDo⟩
  | true =>
   have hDi:=hD i hi hh
   rcases Nat.mod_two_eq_zero_or_one i with he | ho
   ·
    have hE:=hE he
    have hg:=hA.even hi he
    have hp:=hA.pt i hi hg
    have hTi:=(hT i hi).1
    obtain ⟨b1,b2,b3⟩:=b_pt (eqf:=eqf) (same:=same) (red:=red) (out:=out) hg hp hh
    by_cases m:mgd same A i
    ·obtain ⟨m1,m2,m3,m4⟩:=m
     obtain ⟨a1,a2,a3,a4,a5⟩:=hE.1 ⟨m2,m3⟩
     rw [b1 ⟨m1,m2,m3,m4⟩]
     refine ⟨hN.setl a1 (by rw [a2]; exact (hT (i - 1) og).2) a4,fun x hx=>?_⟩
     rcases rB hx with hx | rfl
     ·exact hDo x hx
     ·exact hlD a1
    ·by_cases l:lft same A i
     ·rw [b2 m l]; exact ⟨hN,hDo⟩
     ·rw [b3 m l]
      refine ⟨hN.snoc ⟨⟨hTi,hTi⟩,Nat.le_refl _,fun _=>⟨rfl,rfl⟩⟩ (fun h0=>?_) (fun _=>R.redR _ hTi _ hDi),fun x hx=>?_⟩
      ·have hf2:dL (⟨(gt A i).frm,(gt A i).frm,false,false⟩:Iv)=2*tk (gt A i).frm:=by unfold dL; simp
       by_cases c:0 < i∧(gt A (i - 1)).has=true
       ·obtain ⟨a1,a2,a3,a4,a5⟩:=hE.1 c
        have ea:=hA.adj (i - 1) og
        rw [show i - 1+1=i by omega] at ea
        rw [← ea] at a2
        refine ⟨?_,fun e=>⟨fun e2=>?_,fun e2=>⟨fun e3=>?_,fun _ _=>?_⟩⟩⟩
        ·rw [hf2]; unfold ec; rw [a3,a2,cond_true]; omega
        ·rw [e2] at a4; omega
        ·rw [a3] at e3; cases e3
        ·show same (lst out).f (red (gt A i).f (gt A i).frm) (gt A i).frm=false
         cases hs:same (lst out).f (red (gt A i).f (gt A i).frm) (gt A i).frm with
         | false=>rfl
         | true =>
          have:=R.trans _ hTi _ _ _ (hlD h0) (R.redD _ hTi _ hDi) hDi hs (R.redS _ hTi _ hDi)
          rw [a5] at this
          exact absurd ⟨hh,c.1,c.2,this⟩ m
       ·rcases hE.2 c with h1 | ⟨h1,h2⟩
        ·omega
        ·have q1:=hA.lt (i - 1) og (hA.odd og og)
         have q2:=hA.adj (i - 1) og
         rw [show i - 1+1=i by omega] at q2
         rw [← q2] at q1
         have:=xV (lst out).iv
         refine ⟨by rw [hf2]; omega,fun e=>?_⟩
         have e:(lst out).iv.hi=(gt A i).frm:=e
         rw [e] at h2; omega
      ·rcases List.mem_append.1 hx with hx | hx
       ·exact hDo x hx
       ·rw [List.mem_singleton.1 hx]; exact R.redD _ hTi _ hDi
   ·
    obtain ⟨i,rfl⟩:∃ j,i=j+1:=⟨i - 1,by omega⟩
    have hO:=hO ho
    rw [Nat.add_sub_cancel] at hO
    have hg:=hA.odd (by omega:i+1 < A.length) ho
    have hgp:=hA.even (by omega:i < A.length) og
    have hpp:=hA.pt i og hgp
    have ea:=hA.adj i og
    rw [hpp] at ea
    have hlt:=hA.lt (i+1) og hg
    rw [ea] at hlt
    have hTi:=(hT i og).1
    have hTt:=(hT (i+1) og).2
    have hwv:∀ b:Bool,Wv (⟨(gt A i).frm,(gt A (i+1)).til,b,true⟩:Iv):=fun b=>⟨⟨hTi,hTt⟩,Nat.le_of_lt hlt,fun e=>by have e:tk (gt A i).frm=tk (gt A (i+1)).til:=e; omega⟩
    have hni:(gt A i).frm=(gt A (i+1)).til→red (gt A (i+1)).f (gt A i).frm=(gt A (i+1)).f:=fun e=>by rw [e] at hlt; omega
    obtain ⟨b1,b2,b3⟩:=b_gap (eqf:=eqf) (same:=same) (red:=red) (out:=out) hg ea hh
    have hmem:∀ b:Bool,∀ x∈out++[(⟨⟨(gt A i).frm,(gt A (i+1)).til,b,true⟩,(gt A (i+1)).f⟩:U α)],D x.f:=fun b x hx=>by
     rcases List.mem_append.1 hx with hx | hx
     ·exact hDo x hx
     ·rw [List.mem_singleton.1 hx]; exact hDi
    have hlb:=xV (lst out).iv
    by_cases m:mgd same A i
    ·obtain ⟨a1,a2,a3,a4,a5⟩:=hO.1 m
     cases hq:eqf (gt A (i - 1)).f (gt A (i+1)).f with
     | true =>
      rw [b1 m hq]
      refine ⟨hN.setl a1 hTt (by rw [a2] at a4; omega),fun x hx=>?_⟩
      rcases rB hx with hx | rfl
      ·exact hDo x hx
      ·exact hlD a1
     | false =>
      rw [b2 m hq]
      refine ⟨hN.snoc (hwv true) (fun h0=>⟨?_,fun e=>⟨fun e2=>?_,fun e2=>⟨fun _=>?_,fun e3=>?_⟩⟩⟩) hni,hmem true⟩
      ·unfold ec dL; rw [a3,a2]; simp <;> omega
      ·rw [e2] at a4; omega
      ·show eqf (lst out).f (gt A (i+1)).f=false
       rw [a5]; exact hq
      ·rw [a3] at e3; cases e3
    ·rw [b3 m]
     by_cases c:(gt A i).has=false∨lft same A i
     ·have hE:=hO.2.1 m c
      have hle:=hE.le hA (by omega:i < A.length)
      cases hpb:((gt A i).has && same (gt A (i+1)).f (gt A i).f (gt A i).frm) with
      | false =>
       refine ⟨hN.snoc (hwv _) (fun h0=>?_) hni,hmem _⟩
       have hle:tk (lst out).iv.hi≤tk (gt A i).frm:=hle.resolve_left og
       refine ⟨by unfold dL; simp only [Bool.not_false,cond_true]; omega,fun e=>⟨fun e2=>?_,fun e2=>⟨fun e3=>?_,fun _ e3=>(by cases e3)⟩⟩⟩
       ·by_cases c2:0 < i∧(gt A (i - 1)).has=true
        ·have:=(hE.1 c2).2.2.2.1
         rw [e2] at this; omega
        ·rcases hE.2 c2 with h1 | ⟨h1,h2⟩
         ·omega
         ·have q1:=hA.lt (i - 1) og (hA.odd og og)
          have q2:=hA.adj (i - 1) og
          rw [show i - 1+1=i by omega] at q2
          rw [← q2] at q1
          have e:(lst out).iv.hi=(gt A i).frm:=e
          rw [e] at h2; omega
       ·by_cases c2:0 < i∧(gt A (i - 1)).has=true
        ·rw [(hE.1 c2).2.2.1] at e3; cases e3
        ·rcases hE.2 c2 with h1 | ⟨h1,h2⟩
         ·omega
         ·have q1:=hA.lt (i - 1) og (hA.odd og og)
          have q2:=hA.adj (i - 1) og
          rw [show i - 1+1=i by omega] at q2
          rw [← q2] at q1
          have e:(lst out).iv.hi=(gt A i).frm:=e
          rw [e] at h2; omega
      | true =>
       rw [Bool.and_eq_true] at hpb
       have hDp:=hD i og hpb.1
       refine ⟨hN.snoc (hwv _) (fun h0=>?_) hni,hmem _⟩
       have hf2:dL (⟨(gt A i).frm,(gt A (i+1)).til,!true,true⟩:Iv)=2*tk (gt A i).frm:=by unfold dL; simp
       by_cases c2:0 < i∧(gt A (i - 1)).has=true
       ·obtain ⟨a1,a2,a3,a4,a5⟩:=hE.1 c2
        have q2:=hA.adj (i - 1) og
        rw [show i - 1+1=i by omega] at q2
        rw [← q2] at a2
        refine ⟨by rw [hf2]; unfold ec; rw [a3,a2,cond_true]; omega,fun e=>⟨fun e2=>?_,fun e2=>⟨fun e3=>?_,fun _ _=>?_⟩⟩⟩
        ·rw [e2] at a4; omega
        ·rw [a3] at e3; cases e3
        ·show same (lst out).f (gt A (i+1)).f (gt A i).frm=false
         cases hs:same (lst out).f (gt A (i+1)).f (gt A i).frm with
         | false=>rfl
         | true =>
          have:=R.trans _ hTi _ _ _ (hlD h0) hDi hDp hs hpb.2
          rw [a5] at this
          exact absurd ⟨hpb.1,c2.1,c2.2,this⟩ m
       ·rcases hE.2 c2 with h1 | ⟨h1,h2⟩
        ·omega
        ·have q1:=hA.lt (i - 1) og (hA.odd og og)
         have q2:=hA.adj (i - 1) og
         rw [show i - 1+1=i by omega] at q2
         rw [← q2] at q1
         refine ⟨by rw [hf2]; omega,fun e=>?_⟩
         have e:(lst out).iv.hi=(gt A i).frm:=e
         rw [e] at h2; omega
     ·have hpi:(gt A i).has=true:=by cases hx:(gt A i).has with
       | true=>rfl
       | false=>exact absurd (.inl hx) c
      have hnl:¬ lft same A i:=fun l=>c (.inr l)
      have hDp:=hD i og hpi
      obtain ⟨k1,k2,k3,k4,k5⟩:=hO.2.2 m hpi hnl
      have hsf:same (gt A (i+1)).f (gt A i).f (gt A i).frm=false:=by
       cases hs:same (gt A (i+1)).f (gt A i).f (gt A i).frm with
       | false=>rfl
       | true=>exact absurd ⟨by omega,hh,hs⟩ hnl
      rw [hsf,Bool.and_false]
      refine ⟨hN.snoc (hwv _) (fun h0=>⟨?_,fun e=>⟨fun _=>?_,fun e2=>absurd (k2.trans k3.symm) e2⟩⟩) hni,hmem _⟩
      ·unfold ec dL; rw [k4,k3]; simp <;> omega
      ·show same (gt A (i+1)).f (lst out).f (gt A i).frm=false
       cases hs:same (gt A (i+1)).f (lst out).f (gt A i).frm with
       | false=>rfl
       | true =>
        rw [k5] at hs
        have:=R.trans _ hTi _ _ _ hDi (R.redD _ hTi _ hDp) hDp hs (R.redS _ hTi _ hDp)
        rw [this] at hsf; cases hsf
end
end Go.Sx
namespace Go.Sx
theorem uZ:∀ (f n:Nat),n≤f→n≠0→((leF f n).reverse.headD 0).toNat≠0
 | 0,n,h,h0=>absurd og h0
 | f+1,n,h,h0=>by
  unfold leF
  have hb:Nat.beq n 0=false:=by
   cases e:Nat.beq n 0 with
   | false=>rfl
   | true=>exact absurd (Nat.eq_of_beq_eq_true e) h0
  rw [hb,cond_false,List.reverse_cons]
  by_cases e:n / 256=0
  ·rw [e,mO]
   show (UInt8.ofNat (n % 256)).toNat≠0
   rw [UInt8.toNat_ofNat']
   omega
  ·have ih:=uZ f (n / 256) og e
   cases hr:(leF f (n / 256)).reverse with
   | nil =>
    rw [hr] at ih
    exact absurd rfl ih
   | cons x q =>
    rw [hr] at ih
    exact ih
theorem topb_ne {m:Nat} (h:m≠0):topb m≠0:=uZ m m (Nat.le_refl m) h
theorem icheck {a:GI} (h:IOk a):gi a=0:=by
 unfold gi
 by_cases e:a.mag=0
 ·rw [decide_eq_true e,h e]; rfl
 ·rw [decide_eq_false e,show (((topb a.mag):Int) == (((0:Nat):Int)))=false from beq_eq_false_iff_ne.2 (by have:=topb_ne e; omega)]
  rfl
theorem xx {a:GQ} (h:QOk a):dD a=0:=by
 obtain ⟨h1,h2,h3⟩:=h
 have hd:IOk a.den:=by
  rcases h2 with e | ⟨e,_⟩
  ·rw [e]; intro _; rfl
  ·intro _; exact e
 unfold dD
 rw [icheck h1,icheck hd]
 by_cases e:a.den=z0
 ·rw [decide_eq_true (show a.den=⟨false,0⟩ from e)]; rfl
 ·rw [decide_eq_false (show ¬ a.den=⟨false,0⟩ from e)]
  obtain ⟨n1,n2⟩:=h2.resolve_left e
  have h3:Nat.Coprime a.num.mag a.den.mag:=by unfold o7 at h3; rwa [if_neg e] at h3
  have hv:iV a.den=(a.den.mag:Int):=by unfold iV; rw [n1]; rfl
  have c1:dN a.den rational_one=1:=by
   rw [ut (b:=rational_one) hd (qX 1),hv,xD]
   unfold icmp
   rw [if_neg og,if_pos og]
  have c2:a8 a.num a.den=rational_one:=by
   unfold a8
   rw [show Nat.gcd a.num.mag a.den.mag=1 from h3]; rfl
  rw [c1,decide_eq_true c2]; rfl
theorem dcheck {q:Qd} (h:DOk q):dE q=0:=by
 unfold dE gO
 obtain ⟨h0,h1,h2⟩:=h
 have e:∀ i,i < 3→fw q i=.go (i+1):=fun i hi=>by
  unfold fw
  rw [decide_eq_true (by omega:(i:Int) < 3),cond_true]
  have:i=0∨i=1∨i=2:=by omega
  rcases this with rfl | rfl | rfl
  ·show (bif (dD q.c0 != 0) then _ else _)=_; rw [xx h0]; rfl
  ·show (bif (dD q.c1 != 0) then _ else _)=_; rw [xx h1]; rfl
  ·show (bif (dD q.c2 != 0) then _ else _)=_; rw [xx h2]; rfl
 have e3:fw q 3=.out 3:=rfl
 refine (ir (s:=3) ?_).trans rfl
 rw [eN _ (e 0 DC),eN _ (e 1 DC),eN _ (e 2 DC),fD _ e3]
theorem qE {p:GR→Bool} (h:allI.all p=true) {x:GR} (hx:Tm x):p x=true:=Tm.of_all h hx
theorem uw {x:GR} (hx:Tm x):f8 x=0:=by
 have:=qE (p:=fun x=>f8 x == 0) (by decide +kernel) hx
 exact eq_of_beq this
theorem inst_f (n:Int):ae n false=⟨ah n,zQ,false⟩:=by
 unfold ae bh bB; rfl
theorem inst_t (n:Int):ae n true=⟨ah n,ah 2,false⟩:=by
 unfold ae; rfl
theorem tm_rt {x:GR} (hx:Tm x):RtR x:=by
 obtain ⟨n,r,hn,rfl⟩:=hx
 cases r
 ·rw [inst_f]; exact .inl rfl
 ·rw [inst_t]; exact .inr rfl
theorem ma {x:GR} (hx:Tm x):TOk x:=by
 obtain ⟨n,r,hn,rfl⟩:=hx
 cases r
 ·rw [inst_f]; exact ⟨(jg _).1,lW.1⟩
 ·rw [inst_t]; exact ⟨(jg _).1,(jg 2).1⟩
theorem vcheck {i:Iv} (h:Wv i):cu i=0:=by
 unfold cu
 rw [uw h.1.1,uw h.1.2]
 have hc:cm (aI i) (aG i)=-1:=by
  unfold cm aI aG
  show (bif ((an i.lo i.hi) != 0) then (an i.lo i.hi) else bif (i.openLo == !i.openHi) then 0 else bif !i.openHi then (-1) else 1)=-1
  rw [h.1.1.cmp h.1.2]
  rcases Nat.lt_trichotomy (tk i.lo) (tk i.hi) with e | e | e
  ·rw [fO e]; rfl
  ·obtain ⟨o1,o2⟩:=h.2.2 e
   rw [e,dW,o1,o2]; rfl
  ·have:=h.2.1; omega
 rw [hc]; rfl
theorem gy (a b:Qd):aX a b=true↔a=b:=by
 unfold aX
 simp
theorem quads_ru:Ru DOk aB ar:=by
 have s:∀ f g t,aB f g t=fG f g t:=fun _ _ _=>by unfold aB; rfl
 have r:∀ f t,ar f t=bX f t:=fun _ _=>by unfold ar; rfl
 refine ⟨fun t ht f hf=>?_,fun t ht f g hf hg h=>?_,fun t ht f g e hf hg he h1 h2=>?_,fun t ht f hf=>?_,fun t ht f hf=>?_,fun t ht f hf=>?_⟩
 ·rw [s,kJ hf hf (ma ht)]
 ·rw [s,kJ hf hg (ma ht)] at h
  rw [s,kJ hg hf (ma ht),h]
 ·rw [s,kJ hf hg (ma ht)] at h1
  rw [s,kJ hg he (ma ht)] at h2
  rw [s,kJ hf he (ma ht),h1,h2]
 ·rw [r]; exact (jY hf (ma ht)).1
 ·rw [s,r,kJ (jY hf (ma ht)).1 hf (ma ht)]; exact nM hf (ma ht)
 ·rw [r,r,sr (jY hf (ma ht)).1 hf (ma ht)]; exact nM hf (ma ht)
theorem fs_ok {f:Qd} (h:Fs f):DOk f:=by
 rcases h with rfl | ⟨s,rfl⟩ | ⟨c,rfl⟩
 ·exact ⟨lW.1,lW.1,lW.1⟩
 ·unfold aj
  exact ⟨(jg _).1,(jg _).1,(jg _).1⟩
 ·unfold az
  exact ⟨(jg _).1,lW.1,lW.1⟩
theorem nS {α:Type}:∀ (u:List (U α)) (a:At α),(kz u a).has=true→a.has=true∧(kz u a).f=a.f∨∃ x∈u,(kz u a).f=x.f
 | [],a,h=>.inl ⟨h,rfl⟩
 | x::u,a,h=>by
  rcases nS u (lx x a) h with ⟨h1,h2⟩ | ⟨y,hy,h2⟩
  ·have h2:(kz (x::u) a).f=(lx x a).f:=h2
   unfold lx at h1 h2
   cases hi:aT x.iv a.frm a.til a.gap with
   | true=>rw [hi] at h2; exact .inr ⟨x,List.mem_cons_self ..,h2⟩
   | false=>rw [hi] at h1 h2; exact .inl ⟨h1,h2⟩
  ·exact .inr ⟨y,List.mem_cons_of_mem _ hy,h2⟩
theorem xJ {u:List (U Qd)} (hW:∀ x∈u,Wv x.iv∧DOk x.f):NF aX aB ar (bo u)∧∀ x∈bo u,DOk x.f:=by
 have hE:=(mT (l:=u.map (·.iv)) (fun i hi=>by obtain ⟨x,hx,rfl⟩:=List.mem_map.1 hi; exact (hW x hx).1.1)).1
 unfold bo
 rw [kq,mC,mU]
 have hA:=pu (z:=(default:Qd)) (u:=u) hE
 have hl:(iJ (default:Qd) u (kH (u.map (·.iv)))).length=(f7 (default:Qd) (kH (u.map (·.iv)))).length:=by unfold iJ; rw [List.length_map]
 refine uT quads_ru (fun a b=>(gy a b).1) hA (fun i hi=>?_) (fun i hi hh=>?_) _ (Nat.le_refl _)
 ·rw [lN hi,(gD u _).1,(gD u _).2.2]
  have:=rX (z:=(default:Qd)) hE (a:=gt (f7 default (kH (u.map (·.iv)))) i) (by rw [fL (hl ▸ hi)]; exact List.getElem_mem _)
  exact ⟨this.1,this.2.1⟩
 ·rw [lN hi] at hh ⊢
  rcases nS u _ hh with ⟨h1,_⟩ | ⟨x,hx,h2⟩
  ·have hb:gt (f7 (default:Qd) (kH (u.map (·.iv)))) i∈f7 (default:Qd) (kH (u.map (·.iv))):=by rw [fL (hl ▸ hi)]; exact List.getElem_mem _
   rcases ko.1 hb with ⟨t,_,e⟩ | ⟨t,t',_,e⟩
   ·rw [e] at h1; cases h1
   ·rw [e] at h1; cases h1
  ·rw [h2]; exact (hW x hx).2
end Go.Sx
namespace Go.Sx
section
variable {α:Type} [Inhabited α] {eqf:α→α→Bool} {same:α→α→GR→Bool} {red:α→GR→α} {L out:List (U α)} {x:Nat} {t t':GR} {f:α}
def Vl (out:List (U α)):Prop:=∀ u∈out,Tv u.iv∧tk u.iv.lo≤tk u.iv.hi
omit [Inhabited α] in
theorem Vl.app {y:U α} (h:Vl out) (h1:Tv y.iv) (h2:tk y.iv.lo≤tk y.iv.hi):Vl (out++[y]):=fun u hu=>by
 rcases List.mem_append.1 hu with hu | hu
 ·exact h u hu
 ·rw [List.mem_singleton.1 hu]; exact ⟨h1,h2⟩
omit [Inhabited α] in
theorem Vl.set {y:U α} {i:Nat} (h:Vl out) (h1:Tv y.iv) (h2:tk y.iv.lo≤tk y.iv.hi):Vl (out.set i y):=fun u hu=>by
 rcases List.mem_or_eq_of_mem_set hu with hu | rfl
 ·exact h u hu
 ·exact ⟨h1,h2⟩
theorem newPt_or:ku same red L out x=out∨ku same red L out x=out++[⟨(gt L x).iv,red (gt L x).f (gt L x).iv.lo⟩]:=by
 unfold ku
 cases (((decide (((x+1:Nat):Int) < (L.length:Int))) && (decide (((gt L (x+1)).iv).lo=((gt L x).iv).lo))) && (same ((gt L (x+1)).f) ((gt L x).f) (((gt L x).iv).lo)))
 ·exact .inr rfl
 ·exact .inl rfl
theorem pt_any (hx:gt L x=ptU t f) (ht:Tm t) (h:Vl out):Vl (du eqf same red L out x)∧(du eqf same red L out x).length≤out.length+1:=by
 have hn:Vl (ku same red L out x)∧(ku same red L out x).length≤out.length+1:=by
  rcases newPt_or (same:=same) (red:=red) (L:=L) (out:=out) (x:=x) with e | e
  ·rw [e]; exact ⟨h,Nat.le_succ _⟩
  ·rw [e,hx]; exact ⟨h.app ⟨ht,ht⟩ (Nat.le_refl _),by simp⟩
 unfold du
 rw [hx,show aN (ptU t f).iv=true from decide_eq_true rfl,Bool.not_true,cond_false,cond_false]
 cases hb:tC L out x with
 | false=>exact hn
 | true =>
  rw [cond_true]
  cases same (gt out (out.length - 1)).f (ptU t f).f (ptU t f).iv.lo with
  | false=>exact hn
  | true =>
   obtain ⟨b1,_,_⟩:=iY.1 hb
   have hm:=h _ (f5 b1)
   exact ⟨h.set hm.1 hm.2,by rw [cond_true,List.length_set]; exact Nat.le_succ _⟩
theorem pt_left (hx:gt L x=ptU t f) (ht:Tm t) (h:Vl out) (hn:x+1 < L.length) (h2:(gt L (x+1)).iv.lo=t) (h3:same (gt L (x+1)).f f t=true):Vl (du eqf same red L out x)∧(du eqf same red L out x).length≤out.length:=by
 have hp:ku same red L out x=out:=by
  unfold ku
  rw [hx]
  show (bif (((decide (((x+1:Nat):Int) < (L.length:Int))) && (decide ((gt L (x+1)).iv.lo=t))) && (same ((gt L (x+1)).f) f t)) then out else _)=out
  rw [decide_eq_true (by omega:((x+1:Nat):Int) < (L.length:Int)),h2,decide_eq_true rfl,h3]
  rfl
 unfold du
 rw [hp,hx,show aN (ptU t f).iv=true from decide_eq_true rfl,Bool.not_true,cond_false,cond_false]
 cases hb:tC L out x with
 | false=>exact ⟨h,Nat.le_refl _⟩
 | true =>
  rw [cond_true]
  cases same (gt out (out.length - 1)).f (ptU t f).f (ptU t f).iv.lo with
  | false=>exact ⟨h,Nat.le_refl _⟩
  | true =>
   obtain ⟨b1,_,_⟩:=iY.1 hb
   have hm:=h _ (f5 b1)
   exact ⟨h.set hm.1 hm.2,by rw [cond_true,List.length_set]; exact Nat.le_refl _⟩
theorem xM (hx:gt L x=m7 t t' f):∃ b,jo L out x=out++[⟨⟨t,t',b,true⟩,f⟩]:=by
 unfold jo
 rw [hx]
 cases ((((decide ((x:Int)>0)) && (aN ((gt L (x - 1)).iv))) && (decide (((gt L (x - 1)).iv).lo=((m7 t t' f).iv).lo))) && (!(lr out (((m7 t t' f).iv).lo))))
 ·exact ⟨true,rfl⟩
 ·exact ⟨false,rfl⟩
theorem gap_any (heq:∀ a b,eqf a b=true→a=b) (hx:gt L x=m7 t t' f) (ht:Tm t) (ht':Tm t') (hlt:tk t < tk t') (h:Vl out) :
 Vl (du eqf same red L out x)∧(du eqf same red L out x).length≤out.length+1∧0 < (du eqf same red L out x).length∧(lst (du eqf same red L out x)).iv.hi=t'∧(lst (du eqf same red L out x)).iv.lo≠t'∧(lst (du eqf same red L out x)).f=f:=by
 have hne:t≠t':=fun e=>by rw [e] at hlt; omega
 have hn:Vl (jo L out x)∧(jo L out x).length≤out.length+1∧0 < (jo L out x).length∧(lst (jo L out x)).iv.hi=t'∧(lst (jo L out x)).iv.lo≠t'∧(lst (jo L out x)).f=f:=by
  obtain ⟨b,e⟩:=xM (out:=out) hx
  rw [e,jN]
  exact ⟨h.app ⟨ht,ht'⟩ (Nat.le_of_lt hlt),by simp,by simp,rfl,hne,rfl⟩
 unfold du
 rw [show aN (gt L x).iv=false by rw [hx]; exact decide_eq_false hne,Bool.not_false,cond_true,cond_true]
 cases hb:tC L out x with
 | false=>exact hn
 | true =>
  rw [cond_true]
  cases hq:((!((gt out (out.length - 1)).iv).openHi) && (eqf ((gt out (out.length - 1)).f) ((gt L x).f))) with
  | false=>exact hn
  | true =>
   obtain ⟨b1,b2,b3⟩:=iY.1 hb
   have hm:=h _ (f5 b1)
   rw [Bool.and_eq_true] at hq
   have e:=heq _ _ hq.2
   rw [hx] at b2 e ⊢
   have b2:(lst out).iv.hi=t:=b2
   have hl:tk (lst out).iv.lo < tk t':=by rw [b2] at hm; omega
   rw [cond_true]
   show Vl (out.set (out.length - 1) ⟨⟨(lst out).iv.lo,t',(lst out).iv.openLo,true⟩,(lst out).f⟩)∧(out.set (out.length - 1) (⟨⟨(lst out).iv.lo,t',(lst out).iv.openLo,true⟩,(lst out).f⟩:U α)).length≤_∧0 < (out.set (out.length - 1) (⟨⟨(lst out).iv.lo,t',(lst out).iv.openLo,true⟩,(lst out).f⟩:U α)).length∧(lst (out.set (out.length - 1) ⟨⟨(lst out).iv.lo,t',(lst out).iv.openLo,true⟩,(lst out).f⟩)).iv.hi=t'∧(lst (out.set (out.length - 1) ⟨⟨(lst out).iv.lo,t',(lst out).iv.openLo,true⟩,(lst out).f⟩)).iv.lo≠t'∧(lst (out.set (out.length - 1) ⟨⟨(lst out).iv.lo,t',(lst out).iv.openLo,true⟩,(lst out).f⟩)).f=f
   rw [ub b1,List.length_set]
   exact ⟨h.set ⟨hm.1.1,ht'⟩ (Nat.le_of_lt hl),Nat.le_succ _,b1,rfl,fun e=>by
    have e:(lst out).iv.lo=t':=e
    rw [e] at hl; omega,e⟩
theorem xZ (heq:∀ a b,eqf a b=true→a=b) {n:List (U α)} (hw:∀ u∈n,Wv u.iv) (hr:∀ u∈n,∀ t,Tm t→same u.f u.f t=true) :
 ∀ (s p:List (U α)),n=p++s→(Vl (et (du eqf same red (n.flatMap atU)) [] (p.flatMap atU).length)∧(et (du eqf same red (n.flatMap atU)) [] (p.flatMap atU).length).length≤p.length)→(et (du eqf same red (n.flatMap atU)) [] (n.flatMap atU).length).length≤n.length
 | [],p,hn,hp=>by
  rw [List.append_nil] at hn
  rw [← hn] at hp
  exact hp.2
 | y::s,p,hn,hp=>by
  refine xZ heq hw hr s (p++[y]) (by rw [hn]; simp) ?_
  have hL:n.flatMap atU=p.flatMap atU++(atU y++s.flatMap atU):=by rw [hn]; simp
  have hy:y∈n:=by rw [hn]; simp
  have hwy:=hw y hy
  have hc:((p++[y]).flatMap atU).length=(p.flatMap atU).length+(atU y).length:=by simp
  rw [hc,List.length_append,List.length_singleton]
  generalize hcc:(p.flatMap atU).length=c at *
  generalize hLL:n.flatMap atU=L at *
  have hLl:L.length=c+((atU y).length+(s.flatMap atU).length):=by rw [hL,List.length_append,List.length_append,hcc]
  have hI:∀ k,et (du eqf same red L) [] (c+(k+1))=du eqf same red L (et (du eqf same red L) [] (c+k)) (c+k):=fun _=>rfl
  have hgt:∀ k,k < (atU y).length→gt L (c+k)=gt (atU y) k:=fun k hk=>by
   rw [hL,← hcc]
   have:∀ (A B:List (U α)),gt (A++B) (A.length+k)=gt B k:=fun A B=>by simp [gt,List.getD,List.getElem?_append_right]
   rw [this,ie hk]
  by_cases hi:y.iv.lo=y.iv.hi
  ·obtain ⟨o1,o2⟩:=hwy.2.2 (by rw [hi])
   have ea:atU y=[ptU y.iv.lo y.f]:=by
    unfold atU aN
    rw [o1,decide_eq_true hi]; rfl
   have hx0:gt L (c+0)=ptU y.iv.lo y.f:=by rw [hgt 0 (by rw [ea]; simp),ea]; rfl
   rw [ea]
   show Vl (et _ [] (c+(0+1)))∧(et _ [] (c+(0+1))).length≤_
   rw [hI 0]
   have:=pt_any (eqf:=eqf) (same:=same) (red:=red) hx0 hwy.1.1 hp.1
   exact ⟨this.1,Nat.le_trans this.2 (Nat.succ_le_succ hp.2)⟩
  ·have hini:aN y.iv=false:=decide_eq_false hi
   have hlt:tk y.iv.lo < tk y.iv.hi:=by
    have:=hwy.2.1
    by_cases e:tk y.iv.lo=tk y.iv.hi
    ·exact absurd ((hwy.1.1.inj hwy.1.2).1 e) hi
    ·omega
   have hE:∀ (k:Nat),(Vl (et (du eqf same red L) [] (c+k))∧(et (du eqf same red L) [] (c+k)).length≤p.length)→gt L (c+k)=m7 y.iv.lo y.iv.hi y.f→(y.iv.openHi=false→gt L (c+(k+1))=ptU y.iv.hi y.f) →
    (Vl (et (du eqf same red L) [] (c+(k+1+(bif y.iv.openHi then 0 else 1))))∧(et (du eqf same red L) [] (c+(k+1+(bif y.iv.openHi then 0 else 1)))).length≤p.length+1):=fun k h1 h2 h3=>by
    obtain ⟨g1,g2,g3,g4,g5,g6⟩:=gap_any (eqf:=eqf) (same:=same) (red:=red) heq h2 hwy.1.1 hwy.1.2 hlt h1.1
    rw [← hI k] at g1 g2 g3 g4 g5 g6
    cases ho:y.iv.openHi with
    | true=>exact ⟨g1,Nat.le_trans g2 (Nat.succ_le_succ h1.2)⟩
    | false =>
     show Vl (et _ [] (c+(k+1+1)))∧(et _ [] (c+(k+1+1))).length≤_
     rw [hI (k+1)]
     rw [wY (h3 ho) g3 g4 (by rw [g4]; exact g5) (by rw [g6]; exact hr y hy _ hwy.1.2)]
     have hm:=g1 _ (f5 g3)
     exact ⟨g1.set hm.1 hm.2,by rw [List.length_set]; exact Nat.le_trans g2 (Nat.succ_le_succ h1.2)⟩
   cases hol:y.iv.openLo with
   | false =>
    have ea:atU y=ptU y.iv.lo y.f::m7 y.iv.lo y.iv.hi y.f::(bif y.iv.openHi then [] else [ptU y.iv.hi y.f]):=by
     unfold atU; rw [hol,hini]; rfl
    have hl2:(atU y).length=1+1+(bif y.iv.openHi then 0 else 1):=by rw [ea]; cases y.iv.openHi <;> rfl
    have hx0:gt L (c+0)=ptU y.iv.lo y.f:=by rw [hgt 0 (by rw [hl2]; omega),ea]; rfl
    have hx1:gt L (c+1)=m7 y.iv.lo y.iv.hi y.f:=by rw [hgt 1 (by rw [hl2]; omega),ea]; rfl
    rw [hl2]
    have st1:=pt_left (eqf:=eqf) (same:=same) (red:=red) (out:=et (du eqf same red L) [] c) hx0 hwy.1.1 hp.1 (by rw [hl2] at hLl; omega) (by show (gt L (c+1)).iv.lo=_; rw [hx1]; rfl) (by show same (gt L (c+1)).f _ _=true; rw [hx1]; exact hr y hy _ hwy.1.1)
    exact hE 1 ⟨st1.1,Nat.le_trans st1.2 hp.2⟩ hx1 (fun e=>by rw [hgt 2 (by rw [hl2,e]; decide),ea,e]; rfl)
   | true =>
    have ea:atU y=m7 y.iv.lo y.iv.hi y.f::(bif y.iv.openHi then [] else [ptU y.iv.hi y.f]):=by
     unfold atU; rw [hol,hini]; rfl
    have hl2:(atU y).length=0+1+(bif y.iv.openHi then 0 else 1):=by rw [ea]; cases y.iv.openHi <;> rfl
    have hx0:gt L (c+0)=m7 y.iv.lo y.iv.hi y.f:=by rw [hgt 0 (by rw [hl2]; omega),ea]; rfl
    rw [hl2]
    exact hE 0 hp hx0 (fun e=>by rw [hgt 1 (by rw [hl2,e]; decide),ea,e]; rfl)
theorem um {A:List (At α)}:∀ k,k≤A.length→∀ u∈et (eR eqf same red A) [] k,∃ i,i < A.length∧(gt A i).has=true∧(u.f=(gt A i).f∨u.f=red (gt A i).f (gt A i).frm)
 | 0,_,u,hu=>by cases hu
 | k+1,hk,u,hu=>by
  have ih:∀ u∈et (eR eqf same red A) [] k,∃ i,i < A.length∧(gt A i).has=true∧(u.f=(gt A i).f∨u.f=red (gt A i).f (gt A i).frm):=um k og
  have hu:u∈eR eqf same red A (et (eR eqf same red A) [] k) k:=hu
  generalize et (eR eqf same red A) [] k=out at *
  have hset:∀ (y:U α),0 < out.length→y.f=(lst out).f→u∈out.set (out.length - 1) y→∃ i,i < A.length∧(gt A i).has=true∧(u.f=(gt A i).f∨u.f=red (gt A i).f (gt A i).frm):=fun y h0 e hu=>by
   rcases rB hu with hu | rfl
   ·exact ih u hu
   ·rw [e]; exact ih _ (f5 h0)
  have hset:∀ (y:U α),y.f=(lst out).f→u∈out.set (out.length - 1) y→∃ i,i < A.length∧(gt A i).has=true∧(u.f=(gt A i).f∨u.f=red (gt A i).f (gt A i).frm):=fun y e hu=>by
   by_cases h0:0 < out.length
   ·exact hset y h0 e hu
   ·rw [List.eq_nil_of_length_eq_zero (by omega:out.length=0)] at hu; cases hu
  cases hh:(gt A k).has with
  | false =>
   unfold eR at hu
   rw [hh] at hu; exact ih u hu
  | true =>
   have happ:∀ (y:U α),(y.f=(gt A k).f∨y.f=red (gt A k).f (gt A k).frm)→u∈out++[y]→∃ i,i < A.length∧(gt A i).has=true∧(u.f=(gt A i).f∨u.f=red (gt A i).f (gt A i).frm):=fun y e hu=>by
    rcases List.mem_append.1 hu with hu | hu
    ·exact ih u hu
    ·rw [List.mem_singleton.1 hu]; exact ⟨k,by omega,hh,e⟩
   unfold eR at hu
   rw [hh,Bool.not_true,cond_false] at hu
   cases hg:(gt A k).gap with
   | true =>
    rw [hg,cond_true] at hu
    revert hu
    generalize (((((decide ((k:Int)≥2)) && (gt A (k - 2)).has) && (gt A (k - 1)).has) && (same ((gt A (k - 2)).f) ((gt A (k - 1)).f) ((gt A k).frm))) && (eqf ((gt A (k - 2)).f) ((gt A k).f)))=c
    intro hu
    cases c
    ·exact happ _ (.inl rfl) hu
    ·rw [cond_true] at hu; exact hset ⟨⟨(lst out).iv.lo,(gt A k).til,(lst out).iv.openLo,true⟩,(lst out).f⟩ rfl hu
   | false =>
    rw [hg,cond_false] at hu
    revert hu
    generalize (((decide ((k:Int)>0)) && (gt A (k - 1)).has) && (same ((gt A (k - 1)).f) ((gt A k).f) ((gt A k).frm)))=c
    generalize (((decide (((k+1:Nat):Int) < (A.length:Int))) && (gt A (k+1)).has) && (same ((gt A (k+1)).f) ((gt A k).f) ((gt A k).frm)))=c2
    intro hu
    cases c
    ·cases c2
     ·exact happ _ (.inr rfl) hu
     ·exact ih u hu
    ·rw [cond_true] at hu; exact hset ⟨⟨(lst out).iv.lo,(lst out).iv.hi,(lst out).iv.openLo,false⟩,(lst out).f⟩ rfl hu
end
end Go.Sx
namespace Go.Sx
theorem qJ {α:Type} {n:List (U α)} (hW:∀ x∈n,Wv x.iv) (h:n.Pairwise fun a b=>ec a.iv < (dL b.iv:Int)):n.Pairwise fun a b=>dL a.iv < dL b.iv :=
 h.imp_of_mem fun {a b} ha _ h=>by have:=(hW a ha).le; omega
theorem xF {n:List (U Qd)} (h:NF aX aB ar n) (hD:∀ x∈n,DOk x.f):bn n=(n,0):=by
 obtain ⟨s1,s2⟩:=i0 (fun x hx=>(h.wv x hx).1)
 have hDj:n.Pairwise fun a b=>Dj a.iv b.iv:=h.ord.imp fun h=>.inl h
 have hWs:∀ x∈ao n,Wv x.iv:=fun x hx=>h.wv x (s1.mem_iff.1 hx)
 have hs:=nA h.wv hDj s1 s2
 have e:ao n=n:=pw (k:=fun w=>dL w.iv) (qJ hWs hs) (qJ h.wv h.ord) fun x=>s1.mem_iff
 rw [ii s1.length_eq fun i h0 h1=>(mV h.wv s1 s2).2 hDj i h0 (by rw [s1.length_eq]; exact h1),ij,jL,e]
 rw [nf_fix h (fun x hx t ht=>quads_ru.refl t ht _ (hD x hx)) n [] rfl rfl]
theorem qU (l:List Stp):∀ x∈aM l,Wv x.iv∧DOk x.f:=fun x hx=>⟨((kP l).1 x hx).1,fs_ok ((kP l).1 x hx).2⟩
theorem tz (l:List Stp):NF aX aB ar (bo (aM l))∧∀ x∈bo (aM l),DOk x.f:=xJ (qU l)
theorem bn_len (l:List Stp):(bo (aM l)).length≤(aM l).length:=by
 have hb:=qU l
 obtain ⟨s1,s2⟩:=i0 (fun x hx=>(hb x hx).1.1)
 have h:=m9 (fun a b=>(gy a b).1) (List.Perm.refl (aM l)) (fun x hx=>(hb x hx).1) (kP l).2
 rw [ii s1.length_eq fun i h0 h1=>(mV (fun x hx=>(hb x hx).1) s1 s2).2 (kP l).2 i h0 (by rw [s1.length_eq]; exact h1),ij,jL] at h
 injection h with h1 h2
 rw [← h1,← s1.length_eq]
 exact xZ (fun a b=>(gy a b).1) (fun x hx=>(hb x (s1.mem_iff.1 hx)).1) (fun x hx t ht=>quads_ru.refl t ht _ (hb x (s1.mem_iff.1 hx)).2) _ [] rfl ⟨fun _ h=>(by cases h),Nat.le_refl 0⟩
theorem qm {k m:Nat} (hm:m < 18446744073709551616) (hk:k≤43):SzB k m:=by
 have h8:(le m).length≤8:=(d4 8 m).2 hm
 have h2:2 ^ k≤2 ^ 43:=Nat.pow_le_pow_right DC hk
 unfold SzB
 exact Nat.le_trans (Nat.mul_le_mul h8 h2) DC
def smI (a:GI):Bool:=decide (a.mag < 18446744073709551616)
def smQ (a:GQ):Bool:=smI a.num && smI a.den
def smD (f:Qd):Bool:=smQ f.c0 && (smQ f.c1 && smQ f.c2)
theorem sg {a:GQ} (h:smQ a=true):SzQ 40 a:=by
 unfold smQ smI at h
 rw [Bool.and_eq_true,decide_eq_true_eq,decide_eq_true_eq] at h
 exact ⟨qm h.1 DC,qm h.2 DC⟩
theorem smD_sz {f:Qd} (h:smD f=true):SzD 40 f:=by
 unfold smD at h
 rw [Bool.and_eq_true,Bool.and_eq_true] at h
 exact ⟨sg h.1,sg h.2.1,sg h.2.2⟩
theorem nW {x:GR} (h:Tm x):SzR 40 x:=by
 have:=qE (p:=fun x=>smQ x.p && smQ x.r) (by decide +kernel) h
 rw [Bool.and_eq_true] at this
 exact ⟨sg this.1,sg this.2⟩
def J3:List Int:=[-3,-2,-1,0,1,2,3]
def J2:List Int:=[-2,-1,0,1,2]
def J1:List Int:=[-1,0,1]
def qd (a b c:Int):Qd:=⟨ah a,ah b,ah c⟩
theorem j3 (x:Int):Int.tmod x 4∈J3:=by
 have:=tK x 4 DC
 generalize Int.tmod x 4=y at *
 simp [J3]; omega
theorem j2 (x:Int):Int.tmod x 3∈J2:=by
 have:=tK x 3 DC
 generalize Int.tmod x 3=y at *
 simp [J2]; omega
theorem j1 (x:Int):Int.tmod x 2∈J1:=by
 have:=tK x 2 DC
 generalize Int.tmod x 2=y at *
 simp [J1]; omega
theorem fs_qd {f:Qd} (h:Fs f):∃ a∈J3,∃ b∈J2,∃ c∈J1,f=qd a b c:=by
 rcases h with rfl | ⟨s,rfl⟩ | ⟨c,rfl⟩
 ·exact ⟨0,by decide,0,by decide,0,by decide,rfl⟩
 ·refine ⟨_,j3 s.c0,_,j2 s.c1,_,j1 s.c2,?_⟩
  unfold aj; rfl
 ·refine ⟨_,j3 c,0,by decide,0,by decide,?_⟩
  unfold az; rfl
def smAll (x:GR):Bool:=J3.all fun a=>J2.all fun b=>J1.all fun c=>smD (bX (qd a b c) x)
theorem red_sz {f:Qd} {x:GR} (hf:Fs f) (hx:Tm x):SzD 40 (ar f x):=by
 obtain ⟨a,ha,b,hb,c,hc,rfl⟩:=fs_qd hf
 have h:=qE (p:=smAll) (by decide +kernel) hx
 unfold smAll at h
 have:=List.all_eq_true.1 (List.all_eq_true.1 (List.all_eq_true.1 h a ha) b hb) c hc
 unfold ar
 exact smD_sz this
theorem fs_sz {f:Qd} (hf:Fs f):SzD 40 f:=by
 obtain ⟨a,ha,b,hb,c,hc,rfl⟩:=fs_qd hf
 have h:(J3.all fun a=>J2.all fun b=>J1.all fun c=>smD (qd a b c))=true:=by decide +kernel
 exact smD_sz (List.all_eq_true.1 (List.all_eq_true.1 (List.all_eq_true.1 h a ha) b hb) c hc)
theorem bn_sz (l:List Stp):All (gk 30) (bo (aM l)):=fun x hx=>by
 have hw:=(tz l).1.wv x hx
 refine ⟨⟨cr (nW hw.1.1) DC,cr (nW hw.1.2) DC⟩,dh (j:=30) (k:=40) ?_ DC⟩
 have hE:=(mT (l:=(aM l).map (·.iv)) (fun i hi=>by obtain ⟨x,hx,rfl⟩:=List.mem_map.1 hi; exact (qU l x hx).1.1)).1
 unfold bo at hx
 rw [kq,mC,mU] at hx
 obtain ⟨i,hi,hh,hf⟩:=um _ (Nat.le_refl _) x hx
 have hl:(iJ (default:Qd) (aM l) (kH ((aM l).map (·.iv)))).length=(f7 (default:Qd) (kH ((aM l).map (·.iv)))).length:=by unfold iJ; rw [List.length_map]
 have hb:gt (f7 (default:Qd) (kH ((aM l).map (·.iv)))) i∈f7 (default:Qd) (kH ((aM l).map (·.iv))):=by rw [fL (hl ▸ hi)]; exact List.getElem_mem _
 have hT:=(rX hE hb).1
 rw [lN hi] at hh hf
 have hfs:Fs (kz (aM l) (gt (f7 default (kH ((aM l).map (·.iv)))) i)).f:=by
  rcases nS _ _ hh with ⟨h1,_⟩ | ⟨y,hy,h2⟩
  ·rcases ko.1 hb with ⟨t,_,e⟩ | ⟨t,t',_,e⟩
   ·rw [e] at h1; cases h1
   ·rw [e] at h1; cases h1
  ·rw [h2]; exact ((kP l).1 y hy).2
 rcases hf with e | e
 ·rw [e]; exact fs_sz hfs
 ·rw [e,(gD _ _).1]; exact red_sz hfs hT
theorem nf_rt {n:List (U Qd)} (h:∀ x∈n,Wv x.iv) (j:Nat):RtV (gt n j).iv:=by
 by_cases hj:j < n.length
 ·have:=h (gt n j) (by rw [fL hj]; exact List.getElem_mem _)
  exact ⟨tm_rt this.1.1,tm_rt this.1.2⟩
 ·have:gt n j=default:=by unfold gt; rw [List.getD_eq_getElem?_getD,List.getElem?_eq_none og]; rfl
  rw [this]; exact ⟨.inl rfl,.inl rfl⟩
theorem wk (n:List (U Qd)):fc n n=true:=by
 unfold fc eqUQ
 rw [show (((n.length:Int)) != ((n.length:Int)))=false by simp,cond_false]
 refine (ir (py (n:=n.length) (r:=false) (bad:=fun i=>!(dZ (gt n i) (gt n i))) (fun i hi=>by
  unfold pX
  rw [decide_eq_true (by omega:(i:Int) < (n.length:Int)),cond_true]) (by
  unfold pX
  rw [decide_eq_false (by omega:¬ (n.length:Int) < (n.length:Int))]
  rfl) (n.length - 0+1) 0 (Nat.zero_le _) og fun i _ _=>?_)).trans rfl
 show (!(dZ (gt n i) (gt n i)))=false
 unfold dZ
 rw [decide_eq_true rfl,(gy _ _).2 rfl]; rfl
theorem check_nf {n:List (U Qd)} (hl:n.length≤256) (h:NF aX aB ar n) (hD:∀ x∈n,DOk x.f):iE n=0:=by
 unfold iE
 rw [decide_eq_false (by omega:¬ (n.length:Int)>256),cond_false]
 have hB:∀ i,i < n.length→eP n i=bif false then .ret 0 else .go (i+1):=fun i hi=>by
  have hm:gt n i∈n:=by rw [fL hi]; exact List.getElem_mem _
  unfold eP
  rw [decide_eq_true (by omega:(i:Int) < (n.length:Int)),cond_true,vcheck (h.wv _ hm),dcheck (hD _ hm)]
  have ha:((decide ((i:Int)>0)) && (!(dI ((gt n (i - 1)).iv) ((gt n i).iv))))=false:=by
   by_cases h0:0 < i
   ·have hm':gt n (i - 1)∈n:=by rw [fL og]; exact List.getElem_mem _
    have:=List.pairwise_iff_getElem.1 h.ord (i - 1) i og hi og
    rw [← fL (by omega:i - 1 < n.length),← fL hi] at this
    rw [mI (h.wv _ hm').1 (h.wv _ hm).1,decide_eq_true this,Bool.not_true,Bool.and_false]
   ·rw [decide_eq_false (by omega:¬ (i:Int)>0)]; rfl
  rw [ha]; rfl
 refine (ir (py (bad:=fun _=>false) hB (by
  unfold eP
  rw [decide_eq_false (by omega:¬ (n.length:Int) < (n.length:Int))]
  rfl) (n.length - 0+1) 0 (Nat.zero_le _) og fun _ _ _=>rfl)).trans ?_
 unfold gC
 rw [xF h hD,wk]
 rfl
end Go.Sx
namespace Go.Sx
set_option maxRecDepth 100000
section
variable {α:Type} [Inhabited α] {eqf:α→α→Bool} {same:α→α→GR→Bool} {red:α→GR→α} {D:α→Prop} {L out p:List (U α)} {x:Nat} {z zz y:U α}
def inU (i:Iv) (q:Nat):Prop:=dL i≤q∧(q:Int)≤ec i
omit [Inhabited α] in
theorem l7 {t:GR} {f:α} {q:Nat}:inU (ptU t f).iv q↔q=2*tk t:=by
 have h1:dL (ptU t f).iv=2*tk t:=rfl
 have h2:ec (ptU t f).iv=2*(tk t:Int) - 0:=rfl
 unfold inU
 rw [h1,h2]; omega
omit [Inhabited α] in
theorem pP {t t':GR} {f:α} {q:Nat}:inU (m7 t t' f).iv q↔2*tk t < q∧q < 2*tk t':=by
 have h1:dL (m7 t t' f).iv=2*tk t+1:=rfl
 have h2:ec (m7 t t' f).iv=2*(tk t':Int) - 1:=rfl
 unfold inU
 rw [h1,h2]; omega
def Atm (D:α→Prop) (y:U α):Prop:=D y.f∧((∃ t,Tm t∧y=ptU t y.f)∨∃ t t',Tm t∧Tm t'∧tk t < tk t'∧y=m7 t t' y.f)
structure Ats (D:α→Prop) (L:List (U α)):Prop where
 at_:∀ k,k < L.length→Atm D (gt L k)
 ord:∀ i j,i < j→j < L.length→ec (gt L i).iv < (dL (gt L j).iv:Int)
def Lft (same:α→α→GR→Bool) (L out:List (U α)) (x:Nat) (t:GR):Prop:=lr out t=false∧x < L.length∧(gt L x).iv.lo=t∧same (gt L x).f (gt L (x - 1)).f t=true
def LpC (same:α→α→GR→Bool) (red:α→GR→α) (L out:List (U α)) (x:Nat) (t:GR):Prop :=
 (0 < out.length∧(lst out).iv.hi=t∧(lst out).iv.lo≠(lst out).iv.hi∧(lst out).iv.openHi=false) ∨
 (Lft same L out x t∧(0 < out.length→(lst out).iv.hi=t→(lst out).iv.lo≠(lst out).iv.hi→same (lst out).f (gt L (x - 1)).f t=false)) ∨
 (0 < out.length∧lst out=ptU t (red (gt L (x - 1)).f t)∧(x < L.length→(gt L x).iv.lo=t→same (gt L x).f (gt L (x - 1)).f t=false))
structure NI (eqf:α→α→Bool) (same:α→α→GR→Bool) (red:α→GR→α) (D:α→Prop) (L out:List (U α)) (x:Nat):Prop where
 nf:NF eqf same red out
 dd:∀ u∈out,D u.f
 bel:∀ u∈out,∀ k,x≤k→k < L.length→ec u.iv < (dL (gt L k).iv:Int)
 s1:∀ t,Tm t→∀ u∈out,inU u.iv (2*tk t)→∃ k,k < x∧inU (gt L k).iv (2*tk t)∧same u.f (gt L k).f t=true
 s2:∀ q,∀ u∈out,inU u.iv (2*q+1)→∃ k,k < x∧inU (gt L k).iv (2*q+1)∧u.f=(gt L k).f
 c1:∀ t,Tm t→∀ k,k < x→inU (gt L k).iv (2*tk t)→(∃ u∈out,inU u.iv (2*tk t)∧same u.f (gt L k).f t=true)∨(k+1=x∧Lft same L out x t)
 c2:∀ q k,k < x→inU (gt L k).iv (2*q+1)→∃ u∈out,inU u.iv (2*q+1)∧u.f=(gt L k).f
 lp:0 < x→∀ t,gt L (x - 1)=ptU t (gt L (x - 1)).f→LpC same red L out x t
theorem NI.app (h:NI eqf same red D L out x) (hD:D y.f) (hn:NF eqf same red (out++[y])) (hb:∀ k,x+1≤k→k < L.length→ec y.iv < (dL (gt L k).iv:Int))
 (p1:∀ t,Tm t→inU y.iv (2*tk t)→∃ k,k < x+1∧inU (gt L k).iv (2*tk t)∧same y.f (gt L k).f t=true)
 (p2:∀ q,inU y.iv (2*q+1)→∃ k,k < x+1∧inU (gt L k).iv (2*q+1)∧y.f=(gt L k).f)
 (q1:∀ t,Tm t→inU (gt L x).iv (2*tk t)→inU y.iv (2*tk t)∧same y.f (gt L x).f t=true)
 (q2:∀ q,inU (gt L x).iv (2*q+1)→inU y.iv (2*q+1)∧y.f=(gt L x).f)
 (ql:∀ t,Tm t→0 < x→inU (gt L (x - 1)).iv (2*tk t)→Lft same L out x t→inU y.iv (2*tk t)∧same y.f (gt L (x - 1)).f t=true)
 (lp:∀ t,gt L x=ptU t (gt L x).f→LpC same red L (out++[y]) (x+1) t):NI eqf same red D L (out++[y]) (x+1):=by
 have hy:y∈out++[y]:=by simp
 have ho:∀ u∈out,u∈out++[y]:=fun u hu=>List.mem_append_left _ hu
 refine ⟨hn,fun u hu=>?_,fun u hu k h1 h2=>?_,fun t ht u hu hi=>?_,fun q u hu hi=>?_,fun t ht k hk hi=>?_,fun q k hk hi=>?_,fun _ t e=>lp t e⟩
 ·rcases List.mem_append.1 hu with hu | hu
  ·exact h.dd u hu
  ·rw [List.mem_singleton.1 hu]; exact hD
 ·rcases List.mem_append.1 hu with hu | hu
  ·exact h.bel u hu k og h2
  ·rw [List.mem_singleton.1 hu]; exact hb k h1 h2
 ·rcases List.mem_append.1 hu with hu | hu
  ·obtain ⟨k,h1,h2⟩:=h.s1 t ht u hu hi
   exact ⟨k,by omega,h2⟩
  ·rw [List.mem_singleton.1 hu] at hi ⊢; exact p1 t ht hi
 ·rcases List.mem_append.1 hu with hu | hu
  ·obtain ⟨k,h1,h2⟩:=h.s2 q u hu hi
   exact ⟨k,by omega,h2⟩
  ·rw [List.mem_singleton.1 hu] at hi ⊢; exact p2 q hi
 ·by_cases e:k=x
  ·subst e
   exact .inl ⟨y,hy,q1 t ht hi⟩
  ·rcases h.c1 t ht k og hi with ⟨u,hu,h1⟩ | ⟨h1,h2⟩
   ·exact .inl ⟨u,ho u hu,h1⟩
   ·have e2:k=x - 1:=by omega
    subst e2
    exact .inl ⟨y,hy,ql t ht og hi h2⟩
 ·by_cases e:k=x
  ·subst e
   exact ⟨y,hy,q2 q hi⟩
  ·obtain ⟨u,hu,h1⟩:=h.c2 q k og hi
   exact ⟨u,ho u hu,h1⟩
theorem NI.rep (h:NI eqf same red D L (p++[z]) x) (hf:zz.f=z.f) (hn:NF eqf same red (p++[zz])) (hb:∀ k,x+1≤k→k < L.length→ec zz.iv < (dL (gt L k).iv:Int))
 (hz:∀ q,inU z.iv q→inU zz.iv q)
 (p1:∀ q,inU zz.iv q→inU z.iv q∨inU (gt L x).iv q)
 (q0:∀ q,inU (gt L x).iv q→inU zz.iv q)
 (r1:∀ t,Tm t→inU (gt L x).iv (2*tk t)→same z.f (gt L x).f t=true)
 (r2:∀ q,inU (gt L x).iv (2*q+1)→z.f=(gt L x).f)
 (ql:∀ t,Tm t→0 < x→inU (gt L (x - 1)).iv (2*tk t)→¬ Lft same L (p++[z]) x t)
 (lp:∀ t,gt L x=ptU t (gt L x).f→LpC same red L (p++[zz]) (x+1) t):NI eqf same red D L (p++[zz]) (x+1):=by
 have hy:zz∈p++[zz]:=by simp
 have hzm:z∈p++[z]:=by simp
 have hp:∀ u∈p,u∈p++[z]:=fun u hu=>List.mem_append_left _ hu
 have ho:∀ u∈p++[z],∀ q,inU u.iv q→∃ w∈p++[zz],inU w.iv q∧w.f=u.f:=fun u hu q hq=>by
  rcases List.mem_append.1 hu with hu | hu
  ·exact ⟨u,List.mem_append_left _ hu,hq,rfl⟩
  ·rw [List.mem_singleton.1 hu] at hq ⊢; exact ⟨zz,hy,hz q hq,hf⟩
 refine ⟨hn,fun u hu=>?_,fun u hu k h1 h2=>?_,fun t ht u hu hi=>?_,fun q u hu hi=>?_,fun t ht k hk hi=>?_,fun q k hk hi=>?_,fun _ t e=>lp t e⟩
 ·rcases List.mem_append.1 hu with hu | hu
  ·exact h.dd u (hp u hu)
  ·rw [List.mem_singleton.1 hu,hf]; exact h.dd z hzm
 ·rcases List.mem_append.1 hu with hu | hu
  ·exact h.bel u (hp u hu) k og h2
  ·rw [List.mem_singleton.1 hu]; exact hb k h1 h2
 ·rcases List.mem_append.1 hu with hu | hu
  ·obtain ⟨k,h1,h2⟩:=h.s1 t ht u (hp u hu) hi
   exact ⟨k,by omega,h2⟩
  ·rw [List.mem_singleton.1 hu] at hi ⊢
   rw [hf]
   rcases p1 _ hi with h1 | h1
   ·obtain ⟨k,h3,h2⟩:=h.s1 t ht z hzm h1
    exact ⟨k,by omega,h2⟩
   ·exact ⟨x,by omega,h1,r1 t ht h1⟩
 ·rcases List.mem_append.1 hu with hu | hu
  ·obtain ⟨k,h1,h2⟩:=h.s2 q u (hp u hu) hi
   exact ⟨k,by omega,h2⟩
  ·rw [List.mem_singleton.1 hu] at hi ⊢
   rw [hf]
   rcases p1 _ hi with h1 | h1
   ·obtain ⟨k,h3,h2⟩:=h.s2 q z hzm h1
    exact ⟨k,by omega,h2⟩
   ·exact ⟨x,by omega,h1,r2 q h1⟩
 ·by_cases e:k=x
  ·subst e
   exact .inl ⟨zz,hy,q0 _ hi,by rw [hf]; exact r1 t ht hi⟩
  ·rcases h.c1 t ht k og hi with ⟨u,hu,h1,h2⟩ | ⟨h1,h2⟩
   ·obtain ⟨w,hw,h3,h4⟩:=ho u hu _ h1
    exact .inl ⟨w,hw,h3,by rw [h4]; exact h2⟩
   ·have e2:k=x - 1:=by omega
    subst e2
    exact absurd h2 (ql t ht og hi)
 ·by_cases e:k=x
  ·subst e
   exact ⟨zz,hy,q0 _ hi,by rw [hf]; exact r2 q hi⟩
  ·obtain ⟨u,hu,h1,h2⟩:=h.c2 q k og hi
   obtain ⟨w,hw,h3,h4⟩:=ho u hu _ h1
   exact ⟨w,hw,h3,h4.trans h2⟩
theorem NI.leave (h:NI eqf same red D L out x) {t:GR} (hx:gt L x=ptU t (gt L x).f) (ql:∀ t,Tm t→0 < x→inU (gt L (x - 1)).iv (2*tk t)→¬ Lft same L out x t)
 (hl:Lft same L out (x+1) t) (hs:0 < out.length→(lst out).iv.hi=t→(lst out).iv.lo≠(lst out).iv.hi→same (lst out).f (gt L x).f t=false) (ht:Tm t):NI eqf same red D L out (x+1):=by
 refine ⟨h.nf,h.dd,fun u hu k h1 h2=>h.bel u hu k og h2,fun t ht u hu hi=>?_,fun q u hu hi=>?_,fun s hs_ k hk hi=>?_,fun q k hk hi=>?_,fun _ s e=>?_⟩
 ·obtain ⟨k,h1,h2⟩:=h.s1 t ht u hu hi
  exact ⟨k,by omega,h2⟩
 ·obtain ⟨k,h1,h2⟩:=h.s2 q u hu hi
  exact ⟨k,by omega,h2⟩
 ·by_cases e:k=x
  ·subst e
   rw [hx,l7] at hi
   have e2:s=t:=(hs_.inj ht).1 og
   subst e2
   exact .inr ⟨rfl,hl⟩
  ·rcases h.c1 s hs_ k og hi with h1 | ⟨h1,h2⟩
   ·exact .inl h1
   ·have e2:k=x - 1:=by omega
    subst e2
    exact absurd h2 (ql s hs_ og hi)
 ·by_cases e:k=x
  ·subst e
   rw [hx,l7] at hi
   omega
  ·exact h.c2 q k og hi
 ·have e:gt L x=ptU s (gt L x).f:=e
  have e2:s=t:=by
   have:=congrArg (fun u:U α=>u.iv.lo) (e.symm.trans hx)
   exact this
  subst e2
  exact .inr (.inl ⟨hl,hs⟩)
omit [Inhabited α] in
theorem yf (h:0 < out.length):∃ q z,out=q++[z]:=⟨out.dropLast,out.getLast (by intro e; rw [e] at h; simp at h),(List.dropLast_concat_getLast _).symm⟩
omit [Inhabited α] in
theorem lo_eq {t:GR} (h:Wv z.iv) (he:z.iv.lo=z.iv.hi) (hh:z.iv.hi=t):z=ptU t z.f:=by
 obtain ⟨o1,o2⟩:=h.2.2 (by rw [he])
 obtain ⟨⟨lo,hi,ol,oh⟩,f⟩:=z
 simp only at he hh o1 o2
 subst hh he o1 o2
 rfl
theorem ni_point (R:Ru D same red) (hL:Ats D L) (hxl:x < L.length) {t:GR} (ht:Tm t) (hx:gt L x=ptU t (gt L x).f) (h:NI eqf same red D L out x):NI eqf same red D L (du eqf same red L out x) (x+1):=by
 have hDf:D (gt L x).f:=(hL.at_ x hxl).1
 have hpl:ec (gt L x).iv=2*(tk t:Int):=by rw [hx]; show 2*(tk t:Int) - 0=_; omega
 have hpf:dL (gt L x).iv=2*tk t:=by rw [hx]; rfl
 have hlo:(gt L x).iv.lo=t:=by rw [hx]; rfl
 have ql:∀ s,Tm s→0 < x→inU (gt L (x - 1)).iv (2*tk s)→¬ Lft same L out x s:=fun s hs h0 hi hl=>by
  have h1:=hL.ord (x - 1) x og hxl
  have e:t=s:=hlo.symm.trans hl.2.2.1
  subst e
  have:=hi.2
  rw [hpf] at h1
  omega
 have hbx:∀ k,x+1≤k→k < L.length→2*(tk t:Int) < (dL (gt L k).iv:Int):=fun k h1 h2=>by
  have:=hL.ord x k og h2
  omega
 by_cases hM:0 < out.length∧(lst out).iv.hi=t∧(lst out).iv.lo≠(lst out).iv.hi∧same (lst out).f (gt L x).f t=true
 ·obtain ⟨m1,m2,m3,m4⟩:=hM
  rw [wY hx m1 m2 m3 m4]
  obtain ⟨p,z,rfl⟩:=yf m1
  have hset:=h.nf.setl m1 (T:=(lst (p++[z])).iv.hi) (o:=false) (by rw [m2]; exact ht) (by
   have hw:=h.nf.wv _ (f5 m1)
   have:=hw.2.1
   by_cases e:tk (lst (p++[z])).iv.lo=tk (lst (p++[z])).iv.hi
   ·exact absurd ((hw.1.1.inj hw.1.2).1 e) m3
   ·omega)
  rw [jN] at m2 m3 m4 hset ⊢
  rw [pg] at hset ⊢
  have hwz:=h.nf.wv z (by simp)
  have hlz:ec z.iv=2*(tk z.iv.hi:Int) - (bif z.iv.openHi then 1 else 0):=rfl
  have hlzz:ec (⟨z.iv.lo,z.iv.hi,z.iv.openLo,false⟩:Iv)=2*(tk t:Int) - 0:=by rw [← m2]; rfl
  have hb1:(bif z.iv.openHi then 1 else 0:Int)=0∨(bif z.iv.openHi then 1 else 0:Int)=1:=by cases z.iv.openHi <;> simp
  have hzb:=h.bel z (by simp) x (Nat.le_refl x) hxl
  rw [m2] at hlz
  refine h.rep rfl hset (fun k h1 h2=>?_) (fun q hq=>?_) (fun q hq=>?_) (fun q hq=>?_) (fun s hs hi=>?_) (fun q hi=>?_) ql (fun s e=>?_)
  ·have:=hbx k h1 h2
   show ec (⟨z.iv.lo,z.iv.hi,z.iv.openLo,false⟩:Iv) < _
   omega
  ·exact ⟨hq.1,by show _≤ec (⟨z.iv.lo,z.iv.hi,z.iv.openLo,false⟩:Iv); have:=hq.2; omega⟩
  ·have h2:(q:Int)≤ec (⟨z.iv.lo,z.iv.hi,z.iv.openLo,false⟩:Iv):=hq.2
   by_cases e:q=2*tk t
   ·right; rw [hx,l7]; exact e
   ·left; exact ⟨hq.1,by rcases hb1 with h3 | h3 <;> omega⟩
  ·rw [hx,l7] at hq
   refine ⟨?_,?_⟩
   ·show dL z.iv≤q
    have:=hwz.le
    omega
   ·show _≤ec (⟨z.iv.lo,z.iv.hi,z.iv.openLo,false⟩:Iv)
    omega
  ·rw [hx,l7] at hi
   have e2:s=t:=(hs.inj ht).1 og
   rw [e2]; exact m4
  ·rw [hx,l7] at hi
   omega
  ·have e2:s=t:=congrArg (fun u:U α=>u.iv.lo) (e.symm.trans hx)
   rw [e2]
   refine .inl ⟨by simp,?_⟩
   rw [jN]
   exact ⟨m2,m3,rfl⟩
 ·have hb:0 < out.length→(lst out).iv.hi=t→(lst out).iv.lo≠(lst out).iv.hi→same (lst out).f (gt L x).f t=false:=fun h1 h2 h3=>by
   cases e:same (lst out).f (gt L x).f t with
   | false=>rfl
   | true=>exact absurd ⟨h1,h2,h3,e⟩ hM
  have hnh:lr out t=false:=by
   cases e:lr out t with
   | false=>rfl
   | true =>
    obtain ⟨h1,h2,h3⟩:=ic.1 e
    have:=h.bel _ (f5 h1) x (Nat.le_refl x) hxl
    have hl:ec (lst out).iv=2*(tk (lst out).iv.hi:Int) - (bif (lst out).iv.openHi then 1 else 0):=rfl
    rw [h2,h3] at hl
    have hl:ec (lst out).iv=2*(tk t:Int) - 0:=hl
    omega
  by_cases hN:x+1 < L.length∧(gt L (x+1)).iv.lo=t∧same (gt L (x+1)).f (gt L x).f t=true
  ·obtain ⟨n1,n2,n3⟩:=hN
   rw [wW hx hb n1 n2 n3]
   exact h.leave hx ql ⟨hnh,n1,n2,n3⟩ hb ht
  ·rw [sn_app hx hb (fun n1 n2=>by
    cases e:same (gt L (x+1)).f (gt L x).f t with
    | false=>rfl
    | true=>exact absurd ⟨n1,n2,e⟩ hN)]
   have hrs:=R.redS t ht _ hDf
   refine h.app (R.redD t ht _ hDf) (h.nf.snoc (y:=ptU t (red (gt L x).f t)) ⟨⟨ht,ht⟩,Nat.le_refl _,fun _=>⟨rfl,rfl⟩⟩ (fun h0=>⟨?_,fun hh=>⟨fun hi=>?_,fun hi=>⟨fun ho=>?_,fun ho _=>?_⟩⟩⟩) fun _=>R.redR t ht _ hDf) (fun k h1 h2=>?_) (fun s hs hi=>?_) (fun q hi=>?_) (fun s hs hi=>?_) (fun q hi=>?_) (fun s hs h0 hi hl=>absurd hl (ql s hs h0 hi)) (fun s e=>?_)
   ·have:=h.bel _ (f5 h0) x (Nat.le_refl x) hxl
    rw [hpf] at this
    exact this
   ·have hh:(lst out).iv.hi=t:=hh
    have e:=lo_eq (h.nf.wv _ (f5 h0)) hi hh
    have:=h.bel _ (f5 h0) x (Nat.le_refl x) hxl
    rw [hpf,e] at this
    have hl:ec (ptU t (lst out).f).iv=2*(tk t:Int) - 0:=rfl
    omega
   ·have hh:(lst out).iv.hi=t:=hh
    have:=ic.2 ⟨h0,hh,ho⟩
    rw [hnh] at this; cases this
   ·have hh:(lst out).iv.hi=t:=hh
    have h1:=hb h0 hh hi
    cases e:same (lst out).f (red (gt L x).f t) t with
    | false=>exact e
    | true =>
     have:=R.trans t ht _ _ _ (h.dd _ (f5 h0)) (R.redD t ht _ hDf) hDf e hrs
     rw [h1] at this; cases this
   ·have hl:ec (ptU t (red (gt L x).f t)).iv=2*(tk t:Int) - 0:=rfl
    have:=hbx k h1 h2
    omega
   ·rw [l7] at hi
    have e2:s=t:=(hs.inj ht).1 og
    subst e2
    exact ⟨x,by omega,by rw [hx,l7],hrs⟩
   ·rw [l7] at hi; omega
   ·rw [hx,l7] at hi
    have e2:s=t:=(hs.inj ht).1 og
    subst e2
    exact ⟨l7.2 rfl,hrs⟩
   ·rw [hx,l7] at hi; omega
   ·have e2:s=t:=congrArg (fun u:U α=>u.iv.lo) (e.symm.trans hx)
    rw [e2]
    refine .inr (.inr ⟨by simp,?_,fun n1 n2=>?_⟩)
    ·rw [jN]; rfl
    ·show same (gt L (x+1)).f (gt L x).f t=false
     cases e:same (gt L (x+1)).f (gt L x).f t with
     | false=>rfl
     | true=>exact absurd ⟨n1,n2,e⟩ hN
theorem sn_join {t t':GR} {f:α} (hx:gt L x=m7 t t' f) (hne:t≠t') (h0:0 < out.length) (h1:(lst out).iv.hi=t) (h2:(lst out).iv.lo≠(lst out).iv.hi) (h3:(lst out).iv.openHi=false) (he:eqf (lst out).f f=true) :
 du eqf same red L out x=out.set (out.length - 1) ⟨⟨(lst out).iv.lo,t',(lst out).iv.openLo,true⟩,(lst out).f⟩:=by
 unfold du
 rw [iY.2 ⟨h0,by rw [hx]; exact h1,h2⟩,hx]
 show (bif true then bif (!(decide (t=t'))) then bif ((!((gt out (out.length - 1)).iv).openHi) && (eqf ((gt out (out.length - 1)).f) f)) then _ else _ else _ else _)=_
 rw [decide_eq_false hne,show (gt out (out.length - 1)).iv.openHi=false from h3,show eqf (gt out (out.length - 1)).f f=true from he]
 rfl
omit [Inhabited α] in
theorem Atm.le (h:Atm D y):(dL y.iv:Int)≤ec y.iv:=by
 rcases h.2 with ⟨t,_,e⟩ | ⟨t,t',_,_,hl,e⟩
 ·rw [e]
  have h1:dL (ptU t y.f).iv=2*tk t:=rfl
  have h2:ec (ptU t y.f).iv=2*(tk t:Int) - 0:=rfl
  omega
 ·rw [e]
  have h1:dL (m7 t t' y.f).iv=2*tk t+1:=rfl
  have h2:ec (m7 t t' y.f).iv=2*(tk t':Int) - 1:=rfl
  omega
theorem xz (hL:Ats D L) (hxl:x < L.length) {t t':GR} (ht:Tm t) (hx:gt L x=m7 t t' (gt L x).f) {k:Nat} (hk:k < x) (hi:inU (gt L k).iv (2*tk t)):k=x - 1∧gt L k=ptU t (gt L k).f:=by
 have hpf:dL (gt L x).iv=2*tk t+1:=by rw [hx]; rfl
 have h1:=hL.ord k x hk hxl
 have h2:=hi.2
 refine ⟨?_,?_⟩
 ·refine Classical.byContradiction fun hn=>?_
  have h3:=hL.ord k (x - 1) og og
  have h4:=hL.ord (x - 1) x og hxl
  have h5:=(hL.at_ (x - 1) og).le
  omega
 ·rcases (hL.at_ k og).2 with ⟨s,hs,e⟩ | ⟨s,s',_,_,hl,e⟩
  ·rw [e,l7] at hi
   have e2:t=s:=(ht.inj hs).1 og
   rw [e2]; exact e
  ·rw [e] at h1 h2
   have h3:ec (m7 s s' (gt L k).f).iv=2*(tk s':Int) - 1:=rfl
   omega
omit [Inhabited α] in
theorem atm_pt {t:GR} (h:Atm D y) (he:y.iv.lo=y.iv.hi) (hl:y.iv.lo=t):y=ptU t y.f:=by
 rcases h.2 with ⟨s,hs,e⟩ | ⟨s,s',_,_,hlt,e⟩
 ·have:s=t:=by rw [← hl,e]; rfl
  rw [← this]; exact e
 ·rw [e] at he
  have he:s=s':=he
  rw [he] at hlt; omega
theorem ni_gap (R:Ru D same red) (heq:∀ a b,eqf a b=true→a=b) (hL:Ats D L) (hxl:x < L.length) {t t':GR} (ht:Tm t) (ht':Tm t') (hlt:tk t < tk t') (hx:gt L x=m7 t t' (gt L x).f) (h:NI eqf same red D L out x) :
 NI eqf same red D L (du eqf same red L out x) (x+1):=by
 have hDf:D (gt L x).f:=(hL.at_ x hxl).1
 have hpl:ec (gt L x).iv=2*(tk t':Int) - 1:=by rw [hx]; rfl
 have hpf:dL (gt L x).iv=2*tk t+1:=by rw [hx]; rfl
 have hlo:(gt L x).iv.lo=t:=by rw [hx]; rfl
 have hne:t≠t':=fun e=>by rw [e] at hlt; omega
 have nopt:∀ s,gt L x≠ptU s (gt L x).f:=fun s e=>hne (by
  have e1:t=s:=congrArg (fun u:U α=>u.iv.lo) (hx.symm.trans e)
  have e2:t'=s:=congrArg (fun u:U α=>u.iv.hi) (hx.symm.trans e)
  rw [e1,e2])
 have hbx:∀ k,x+1≤k→k < L.length→2*(tk t':Int) - 1 < (dL (gt L k).iv:Int):=fun k h1 h2=>by
  have:=hL.ord x k og h2
  omega
 by_cases hJ:0 < out.length∧(lst out).iv.hi=t∧(lst out).iv.lo≠(lst out).iv.hi∧(lst out).iv.openHi=false∧eqf (lst out).f (gt L x).f=true
 ·obtain ⟨m1,m2,m3,m4,m5⟩:=hJ
  rw [sn_join hx hne m1 m2 m3 m4 m5]
  have hheld:lr out t=true:=ic.2 ⟨m1,m2,m4⟩
  obtain ⟨p,z,rfl⟩:=yf m1
  have hw:=h.nf.wv _ (f5 m1)
  have hlz0:tk (lst (p++[z])).iv.lo < tk t:=by
   have:=hw.2.1
   by_cases e:tk (lst (p++[z])).iv.lo=tk (lst (p++[z])).iv.hi
   ·exact absurd ((hw.1.1.inj hw.1.2).1 e) m3
   ·rw [m2] at this e; omega
  have hset:=h.nf.setl m1 (T:=t') (o:=true) ht' og
  rw [jN] at m2 m3 m4 m5 hset hw hlz0 ⊢
  rw [pg] at hset ⊢
  have hlz:ec z.iv=2*(tk z.iv.hi:Int) - (bif z.iv.openHi then 1 else 0):=rfl
  rw [m2,m4] at hlz
  have hlz:ec z.iv=2*(tk t:Int) - 0:=hlz
  have hlzz:ec (⟨z.iv.lo,t',z.iv.openLo,true⟩:Iv)=2*(tk t':Int) - 1:=rfl
  have hle:=hw.le
  refine h.rep rfl hset (fun k h1 h2=>?_) (fun q hq=>?_) (fun q hq=>?_) (fun q hq=>?_) (fun s hs _=>?_) (fun q _=>heq _ _ m5) (fun s hs h0 hi hl=>?_) (fun s e=>absurd e (nopt s))
  ·have:=hbx k h1 h2
   show ec (⟨z.iv.lo,t',z.iv.openLo,true⟩:Iv) < _
   omega
  ·exact ⟨hq.1,by show _≤ec (⟨z.iv.lo,t',z.iv.openLo,true⟩:Iv); have:=hq.2; omega⟩
  ·have h2:(q:Int)≤ec (⟨z.iv.lo,t',z.iv.openLo,true⟩:Iv):=hq.2
   by_cases e:q≤2*tk t
   ·left; exact ⟨hq.1,by omega⟩
   ·right; rw [hx,pP]; omega
  ·rw [hx,pP] at hq
   refine ⟨?_,?_⟩
   ·show dL z.iv≤q
    omega
   ·show _≤ec (⟨z.iv.lo,t',z.iv.openLo,true⟩:Iv)
    omega
  ·rw [heq _ _ m5]; exact R.refl s hs _ hDf
  ·have e:t=s:=hlo.symm.trans hl.2.2.1
   rw [← e] at hl
   rw [hl.1] at hheld; cases hheld
 ·have hb:0 < out.length→(lst out).iv.hi=t→(lst out).iv.lo≠(lst out).iv.hi→(lst out).iv.openHi=false→eqf (lst out).f (gt L x).f=false:=fun h1 h2 h3 h4=>by
   cases e:eqf (lst out).f (gt L x).f with
   | false=>rfl
   | true=>exact absurd ⟨h1,h2,h3,h4,e⟩ hJ
  obtain ⟨own,ho⟩:∃ own:Bool,own=true↔(0 < x∧(gt L (x - 1)).iv.lo=(gt L (x - 1)).iv.hi∧(gt L (x - 1)).iv.lo=t∧lr out t=false):=⟨decide (0 < x∧(gt L (x - 1)).iv.lo=(gt L (x - 1)).iv.hi∧(gt L (x - 1)).iv.lo=t∧lr out t=false),decide_eq_true_iff⟩
  rw [wX hx hne hb own ho]
  have hown:own=true→0 < x∧gt L (x - 1)=ptU t (gt L (x - 1)).f∧same (gt L x).f (gt L (x - 1)).f t=true∧lr out t=false∧(0 < out.length→(lst out).iv.hi=t→(lst out).iv.lo≠(lst out).iv.hi→same (lst out).f (gt L (x - 1)).f t=false):=fun e=>by
   obtain ⟨o1,o2,o3,o4⟩:=ho.1 e
   have hp:=atm_pt (hL.at_ (x - 1) og) o2 o3
   rcases h.lp o1 t hp with ⟨a1,a2,_,a4⟩ | ⟨a1,a2⟩ | ⟨a1,a2,_⟩
   ·rw [ic.2 ⟨a1,a2,a4⟩] at o4; cases o4
   ·exact ⟨o1,hp,a1.2.2.2,o4,a2⟩
   ·rw [ic.2 ⟨a1,by rw [a2]; rfl,by rw [a2]; rfl⟩] at o4; cases o4
  have hyf:dL (⟨t,t',!own,true⟩:Iv)=2*tk t+(bif !own then 1 else 0):=rfl
  have hyl:ec (⟨t,t',!own,true⟩:Iv)=2*(tk t':Int) - 1:=rfl
  have hbv:(own=true∧(bif !own then 1 else 0:Nat)=0)∨(own=false∧(bif !own then 1 else 0:Nat)=1):=by cases own <;> simp
  have hlast:0 < out.length→ec (lst out).iv < (dL (⟨t,t',!own,true⟩:Iv):Int):=fun h0=>by
   have h1:=h.bel _ (f5 h0) x (Nat.le_refl x) hxl
   rcases hbv with ⟨e,e1⟩ | ⟨e,e1⟩
   ·have hh:=(hown e).2.2.2.1
    have hl:ec (lst out).iv=2*(tk (lst out).iv.hi:Int) - (bif (lst out).iv.openHi then 1 else 0):=rfl
    cases hoh:(lst out).iv.openHi with
    | true =>
     rw [hoh] at hl
     have hl:ec (lst out).iv=2*(tk (lst out).iv.hi:Int) - 1:=hl
     omega
    | false =>
     rw [hoh] at hl
     have hl:ec (lst out).iv=2*(tk (lst out).iv.hi:Int) - 0:=hl
     by_cases e2:tk (lst out).iv.hi=tk t
     ·have e3:=((h.nf.wv _ (f5 h0)).1.2.inj ht).1 e2
      rw [ic.2 ⟨h0,e3,hoh⟩] at hh; cases hh
     ·omega
   ·omega
  refine h.app (y:=⟨⟨t,t',!own,true⟩,(gt L x).f⟩) hDf (h.nf.snoc ⟨⟨ht,ht'⟩,Nat.le_of_lt hlt,fun e=>?_⟩ (fun h0=>⟨hlast h0,fun hh=>⟨fun hi=>?_,fun hi=>⟨fun hoh=>?_,fun hoh hol=>?_⟩⟩⟩) fun e=>absurd e hne) (fun k h1 h2=>?_) (fun s hs hi=>?_) (fun q hi=>?_) (fun s hs hi=>?_) (fun q hi=>?_) (fun s hs h0 hi hl=>?_) (fun s e=>absurd e (nopt s))
  ·have e:tk t=tk t':=e
   omega
  ·have hh:(lst out).iv.hi=t:=hh
   have hwl:=h.nf.wv _ (f5 h0)
   have e:=lo_eq hwl hi hh
   obtain ⟨k,k1,k2,k3⟩:=h.s1 t ht _ (f5 h0) (by rw [e]; exact l7.2 rfl)
   obtain ⟨e1,e2⟩:=xz hL hxl ht hx k1 k2
   subst e1
   rcases h.lp og t e2 with ⟨a1,a2,a3,a4⟩ | ⟨a1,a2⟩ | ⟨a1,a2,a3⟩
   ·exact absurd hi a3
   ·have:=a1.1
    rw [ic.2 ⟨h0,hh,by rw [e]; rfl⟩] at this; cases this
   ·show same (gt L x).f (lst out).f t=false
    have hDp:D (gt L (x - 1)).f:=(hL.at_ (x - 1) og).1
    have e3:(lst out).f=red (gt L (x - 1)).f t:=congrArg (fun u:U α=>u.f) a2
    rw [e3]
    have h3:=a3 hxl hlo
    cases e4:same (gt L x).f (red (gt L (x - 1)).f t) t with
    | false=>rfl
    | true =>
     have:=R.trans t ht _ _ _ hDf (R.redD t ht _ hDp) hDp e4 (R.redS t ht _ hDp)
     rw [h3] at this; cases this
  ·exact hb h0 hh hi hoh
  ·have hh:(lst out).iv.hi=t:=hh
   have hol:(!own)=false:=hol
   have eo:own=true:=by cases own <;> first | rfl | cases hol
   obtain ⟨o1,o2,o3,o4,o5⟩:=hown eo
   have h3:=o5 h0 hh hi
   show same (lst out).f (gt L x).f t=false
   cases e4:same (lst out).f (gt L x).f t with
   | false=>rfl
   | true =>
    have:=R.trans t ht _ _ _ (h.dd _ (f5 h0)) hDf (hL.at_ (x - 1) og).1 e4 o3
    rw [h3] at this; cases this
  ·have:=hbx k h1 h2
   show ec (⟨t,t',!own,true⟩:Iv) < _
   omega
  ·have h1:dL (⟨t,t',!own,true⟩:Iv)≤2*tk s:=hi.1
   have h2:((2*tk s:Nat):Int)≤ec (⟨t,t',!own,true⟩:Iv):=hi.2
   by_cases e:tk s=tk t
   ·have e1:=(hs.inj ht).1 e
    subst e1
    rcases hbv with ⟨eo,_⟩ | ⟨eo,e2⟩
    ·obtain ⟨o1,o2,o3,o4,o5⟩:=hown eo
     exact ⟨x - 1,by omega,by rw [o2,l7],o3⟩
    ·omega
   ·refine ⟨x,by omega,?_,R.refl s hs _ hDf⟩
    rw [hx,pP]; omega
  ·have h1:dL (⟨t,t',!own,true⟩:Iv)≤2*q+1:=hi.1
   have h2:((2*q+1:Nat):Int)≤ec (⟨t,t',!own,true⟩:Iv):=hi.2
   refine ⟨x,by omega,?_,rfl⟩
   rw [hx,pP]; omega
  ·rw [hx,pP] at hi
   refine ⟨⟨?_,?_⟩,R.refl s hs _ hDf⟩
   ·show dL (⟨t,t',!own,true⟩:Iv)≤_
    omega
   ·show _≤ec (⟨t,t',!own,true⟩:Iv)
    omega
  ·rw [hx,pP] at hi
   refine ⟨⟨?_,?_⟩,rfl⟩
   ·show dL (⟨t,t',!own,true⟩:Iv)≤_
    omega
   ·show _≤ec (⟨t,t',!own,true⟩:Iv)
    omega
  ·have e:t=s:=hlo.symm.trans hl.2.2.1
   subst e
   obtain ⟨_,e2⟩:=xz hL hxl ht hx og hi
   have eo:own=true:=ho.2 ⟨h0,by rw [e2]; rfl,by rw [e2]; rfl,hl.1⟩
   refine ⟨⟨?_,?_⟩,hl.2.2.2⟩
   ·show dL (⟨t,t',!own,true⟩:Iv)≤_
    rcases hbv with ⟨_,e3⟩ | ⟨e3,_⟩
    ·omega
    ·rw [eo] at e3; cases e3
   ·show _≤ec (⟨t,t',!own,true⟩:Iv)
    omega
theorem ni_all (R:Ru D same red) (heq:∀ a b,eqf a b=true→a=b) (hL:Ats D L):∀ x,x≤L.length→NI eqf same red D L (et (du eqf same red L) [] x) x
 | 0,_=>⟨⟨fun _ h=>(by cases h),List.Pairwise.nil,fun _ h=>(by cases h),fun _ h=>(by cases h)⟩,fun _ h=>(by cases h),fun _ h=>(by cases h),fun _ _ _ h=>(by cases h),fun _ _ h=>(by cases h),fun _ _ _ h=>og,fun _ _ h=>og,fun h=>og⟩
 | x+1,hx=>by
  have h:=ni_all R heq hL x og
  show NI eqf same red D L (du eqf same red L (et (du eqf same red L) [] x) x) (x+1)
  rcases (hL.at_ x hx).2 with ⟨t,ht,e⟩ | ⟨t,t',ht,ht',hlt,e⟩
  ·exact ni_point R hL hx ht e h
  ·exact ni_gap R heq hL hx ht ht' hlt e h
structure Sem (same:α→α→GR→Bool) (n N:List (U α)):Prop where
 s1:∀ t,Tm t→∀ u∈N,inU u.iv (2*tk t)→∃ w∈n,inU w.iv (2*tk t)∧same u.f w.f t=true
 s2:∀ q,∀ u∈N,inU u.iv (2*q+1)→∃ w∈n,inU w.iv (2*q+1)∧u.f=w.f
 c1:∀ t,Tm t→∀ w∈n,inU w.iv (2*tk t)→∃ u∈N,inU u.iv (2*tk t)∧same u.f w.f t=true
 c2:∀ q,∀ w∈n,inU w.iv (2*q+1)→∃ u∈N,inU u.iv (2*q+1)∧u.f=w.f
omit [Inhabited α] in
theorem at_f {u a:U α} (h:a∈atU u):a.f=u.f:=by
 unfold atU at h
 cases h1:u.iv.openLo <;> cases h2:aN u.iv <;> cases h3:u.iv.openHi <;> rw [h1,h2,h3] at h <;> simp at h <;> (try rcases h with h | h | h) <;> (try rcases h with h | h) <;> (try subst h) <;> first | rfl | (exact absurd h (by simp)) | skip
omit [Inhabited α] in
theorem cov {u:U α} (hw:Wv u.iv) {q:Nat}:inU u.iv q↔∃ a∈atU u,inU a.iv q:=by
 have hf:dL u.iv=2*tk u.iv.lo+(bif u.iv.openLo then 1 else 0):=rfl
 have hl:ec u.iv=2*(tk u.iv.hi:Int) - (bif u.iv.openHi then 1 else 0):=rfl
 have hwl:=hw.2.1
 by_cases hi:u.iv.lo=u.iv.hi
 ·obtain ⟨o1,o2⟩:=hw.2.2 (by rw [hi])
  have ea:atU u=[ptU u.iv.lo u.f]:=by
   unfold atU aN
   rw [o1,decide_eq_true hi]; rfl
  rw [ea]
  rw [o1] at hf; rw [o2] at hl
  have hf:dL u.iv=2*tk u.iv.lo+0:=hf
  have hl:ec u.iv=2*(tk u.iv.hi:Int) - 0:=hl
  rw [← hi] at hl
  simp only [List.mem_singleton,exists_eq_left,l7]
  unfold inU
  omega
 ·have hini:aN u.iv=false:=decide_eq_false hi
  have hlt:tk u.iv.lo < tk u.iv.hi:=by
   by_cases e:tk u.iv.lo=tk u.iv.hi
   ·exact absurd ((hw.1.1.inj hw.1.2).1 e) hi
   ·omega
  unfold atU
  rw [hini]
  unfold inU
  rw [hf,hl]
  cases u.iv.openLo <;> cases u.iv.openHi <;> simp only [cond_true,cond_false,List.nil_append,List.cons_append,List.mem_cons,List.not_mem_nil,or_false,exists_eq_or_imp,exists_eq_left] <;>
   (have h1:=@l7 α u.iv.lo u.f q; have h2:=@pP α u.iv.lo u.iv.hi u.f q; have h3:=@l7 α u.iv.hi u.f q; unfold inU at h1 h2 h3; simp only [h1,h2,h3]; omega)
omit [Inhabited α] in
theorem vr {u a:U α} (hw:Wv u.iv) (hD:D u.f) (h:a∈atU u):Atm D a∧dL u.iv≤dL a.iv∧ec a.iv≤ec u.iv:=by
 have hf:=at_f h
 have hA:Atm D a:=by
  refine ⟨by rw [hf]; exact hD,?_⟩
  rw [hf]
  unfold atU at h
  rcases List.mem_append.1 h with h | h
  ·cases ho:u.iv.openLo <;> rw [ho] at h
   ·exact .inl ⟨_,hw.1.1,List.mem_singleton.1 h⟩
   ·cases h
  ·cases hi:aN u.iv <;> rw [hi] at h
   ·rcases List.mem_cons.1 h with h | h
    ·have hne:u.iv.lo≠u.iv.hi:=of_decide_eq_false hi
     refine .inr ⟨_,_,hw.1.1,hw.1.2,?_,h⟩
     have:=hw.2.1
     by_cases e:tk u.iv.lo=tk u.iv.hi
     ·exact absurd ((hw.1.1.inj hw.1.2).1 e) hne
     ·omega
    ·cases ho:u.iv.openHi <;> rw [ho] at h
     ·exact .inl ⟨_,hw.1.2,List.mem_singleton.1 h⟩
     ·cases h
   ·cases h
 refine ⟨hA,?_,?_⟩
 ·exact ((cov hw).2 ⟨a,h,Nat.le_refl _,hA.le⟩).1
 ·have h0:∃ k:Nat,(k:Int)=ec a.iv:=⟨(ec a.iv).toNat,by have:=hA.le; omega⟩
  obtain ⟨k,hk⟩:=h0
  have:=((cov hw).2 ⟨a,h,(by have:=hA.le; omega:dL a.iv≤k),og⟩).2
  omega
theorem ats_of {n:List (U α)} (hw:∀ u∈n,Wv u.iv∧D u.f) (ho:n.Pairwise fun a b=>ec a.iv < (dL b.iv:Int)):Ats D (n.flatMap atU):=by
 refine ⟨fun k hk=>?_,fun i j hij hj=>?_⟩
 ·have hm:gt (n.flatMap atU) k∈n.flatMap atU:=by rw [fL hk]; exact List.getElem_mem _
  obtain ⟨u,hu,ha⟩:=List.mem_flatMap.1 hm
  exact (vr (hw u hu).1 (hw u hu).2 ha).1
 ·have hp:(n.flatMap atU).Pairwise fun a b=>ec a.iv < (dL b.iv:Int):=by
   rw [List.pairwise_flatMap]
   refine ⟨fun u hu=>?_,ho.imp_of_mem fun {a b} ha hb h x hx y hy=>?_⟩
   ·have hwu:=(hw u hu).1
    have hlt:u.iv.lo≠u.iv.hi→tk u.iv.lo < tk u.iv.hi:=fun hi=>by
     have:=hwu.2.1
     by_cases e:tk u.iv.lo=tk u.iv.hi
     ·exact absurd ((hwu.1.1.inj hwu.1.2).1 e) hi
     ·omega
    have p1:dL (ptU u.iv.lo u.f).iv=2*tk u.iv.lo:=rfl
    have p2:ec (ptU u.iv.lo u.f).iv=2*(tk u.iv.lo:Int) - 0:=rfl
    have p3:dL (ptU u.iv.hi u.f).iv=2*tk u.iv.hi:=rfl
    have p4:dL (m7 u.iv.lo u.iv.hi u.f).iv=2*tk u.iv.lo+1:=rfl
    have p5:ec (m7 u.iv.lo u.iv.hi u.f).iv=2*(tk u.iv.hi:Int) - 1:=rfl
    unfold atU
    cases hi:aN u.iv with
    | true=>cases u.iv.openLo <;> simp
    | false =>
     have:=hlt (of_decide_eq_false hi)
     cases u.iv.openLo <;> cases u.iv.openHi <;> simp <;> omega
   ·have a1:=(vr (hw a ha).1 (hw a ha).2 hx).2.2
    have a2:=(vr (hw b hb).1 (hw b hb).2 hy).2.1
    omega
  have:=List.pairwise_iff_getElem.1 hp i j og hj hij
  rw [fL og,fL hj]
  exact this
theorem uF {n:List (U α)} (R:Ru D same red) (heq:∀ a b,eqf a b=true→a=b) (hw:∀ u∈n,Wv u.iv∧D u.f) (ho:n.Pairwise fun a b=>ec a.iv < (dL b.iv:Int)) :
 NF eqf same red (et (du eqf same red (n.flatMap atU)) [] (n.flatMap atU).length)∧(∀ u∈et (du eqf same red (n.flatMap atU)) [] (n.flatMap atU).length,D u.f)∧Sem same n (et (du eqf same red (n.flatMap atU)) [] (n.flatMap atU).length):=by
 have hL:=ats_of hw ho
 have h:=ni_all (eqf:=eqf) R heq hL _ (Nat.le_refl _)
 generalize et (du eqf same red (n.flatMap atU)) [] (n.flatMap atU).length=N at h
 have inn:∀ {k q},k < (n.flatMap atU).length→inU (gt (n.flatMap atU) k).iv q→∃ w∈n,inU w.iv q∧w.f=(gt (n.flatMap atU) k).f:=fun {k q} hk hi=>by
  have hm:gt (n.flatMap atU) k∈n.flatMap atU:=by rw [fL hk]; exact List.getElem_mem _
  obtain ⟨u,hu,ha⟩:=List.mem_flatMap.1 hm
  exact ⟨u,hu,(cov (hw u hu).1).2 ⟨_,ha,hi⟩,(at_f ha).symm⟩
 have out_:∀ {w q},w∈n→inU w.iv q→∃ k,k < (n.flatMap atU).length∧inU (gt (n.flatMap atU) k).iv q∧w.f=(gt (n.flatMap atU) k).f:=fun {w q} hw_ hi=>by
  obtain ⟨a,ha,h1⟩:=(cov (hw w hw_).1).1 hi
  have hm:a∈n.flatMap atU:=List.mem_flatMap.2 ⟨w,hw_,ha⟩
  obtain ⟨k,hk,e⟩:=List.getElem_of_mem hm
  exact ⟨k,hk,by rw [fL hk,e]; exact h1,by rw [fL hk,e]; exact (at_f ha).symm⟩
 refine ⟨h.nf,h.dd,fun t ht u hu hi=>?_,fun q u hu hi=>?_,fun t ht w hw_ hi=>?_,fun q w hw_ hi=>?_⟩
 ·obtain ⟨k,h1,h2,h3⟩:=h.s1 t ht u hu hi
  obtain ⟨w,hw_,h4,h5⟩:=inn h1 h2
  exact ⟨w,hw_,h4,by rw [h5]; exact h3⟩
 ·obtain ⟨k,h1,h2,h3⟩:=h.s2 q u hu hi
  obtain ⟨w,hw_,h4,h5⟩:=inn h1 h2
  exact ⟨w,hw_,h4,by rw [h5]; exact h3⟩
 ·obtain ⟨k,h1,h2,h3⟩:=out_ hw_ hi
  rcases h.c1 t ht k h1 h2 with ⟨u,hu,h4,h5⟩ | ⟨_,h4⟩
  ·exact ⟨u,hu,h4,by rw [h3]; exact h5⟩
  ·exact absurd h4.2.1 (Nat.lt_irrefl _)
 ·obtain ⟨k,h1,h2,h3⟩:=out_ hw_ hi
  obtain ⟨u,hu,h4,h5⟩:=h.c2 q k h1 h2
  exact ⟨u,hu,h4,by rw [h3]; exact h5⟩
end
end Go.Sx
namespace Go.Sx
set_option maxRecDepth 100000
section
variable {α:Type} [Inhabited α] {eqf:α→α→Bool} {same:α→α→GR→Bool} {red:α→GR→α} {D:α→Prop} {n m:List (U α)} {u w:U α}
theorem NF.tail (h:NF eqf same red (u::n)):NF eqf same red n∧(∀ v∈n,ec u.iv < (dL v.iv:Int)):=by
 have ho:=List.pairwise_cons.1 h.ord
 refine ⟨⟨fun x hx=>h.wv x (List.mem_cons_of_mem _ hx),ho.2,fun i hi=>?_,fun x hx=>h.inst x (List.mem_cons_of_mem _ hx)⟩,ho.1⟩
 exact h.lk (i+1) (by simp only [List.length_cons]; omega)
theorem NF.nextLk (h:NF eqf same red (u::n)) (hw:w∈n) (hk:(dL w.iv:Int)=ec u.iv+1):Lk eqf same u w:=by
 cases n with
 | nil=>cases hw
 | cons v n =>
  obtain ⟨h1,h2⟩:=h.tail
  rcases List.mem_cons.1 hw with e | hw
  ·rw [e]; exact h.lk 0 (by simp)
  ·have a1:=h2 v (List.mem_cons_self ..)
   have a2:=h1.tail.2 w hw
   have a3:=(h1.wv v (List.mem_cons_self ..)).le
   omega
theorem NF.one (h:NF eqf same red n) (hu:u∈n) (hw:w∈n) {q:Nat} (h1:inU u.iv q) (h2:inU w.iv q):u=w:=by
 induction n with
 | nil=>cases hu
 | cons v n ih =>
  obtain ⟨t1,t2⟩:=h.tail
  rcases List.mem_cons.1 hu with e1 | hu2 <;> rcases List.mem_cons.1 hw with e2 | hw2
  ·rw [e1,e2]
  ·have:=t2 w hw2
   rw [e1] at h1
   have b1:=h1.2; have b2:=h2.1
   omega
  ·have:=t2 u hu2
   rw [e2] at h2
   have b1:=h1.1; have b2:=h2.2
   omega
  ·exact ih t1 hu2 hw2
omit [Inhabited α] in
theorem Sem.symm (R:Ru D same red) (hn:∀ u∈n,D u.f) (hm:∀ u∈m,D u.f) (h:Sem same n m):Sem same m n:=by
 refine ⟨fun t ht u hu hi=>?_,fun q u hu hi=>?_,fun t ht w hw hi=>?_,fun q w hw hi=>?_⟩
 ·obtain ⟨w,h1,h2,h3⟩:=h.c1 t ht u hu hi
  exact ⟨w,h1,h2,R.symm t ht _ _ (hm w h1) (hn u hu) h3⟩
 ·obtain ⟨w,h1,h2,h3⟩:=h.c2 q u hu hi
  exact ⟨w,h1,h2,h3.symm⟩
 ·obtain ⟨u,h1,h2,h3⟩:=h.s1 t ht w hw hi
  exact ⟨u,h1,h2,R.symm t ht _ _ (hm w hw) (hn u h1) h3⟩
 ·obtain ⟨u,h1,h2,h3⟩:=h.s2 q w hw hi
  exact ⟨u,h1,h2,h3.symm⟩
omit [Inhabited α] in
theorem Sem.trans {k:List (U α)} (R:Ru D same red) (hn:∀ u∈n,D u.f) (hm:∀ u∈m,D u.f) (hk:∀ u∈k,D u.f) (h:Sem same n m) (h':Sem same m k):Sem same n k:=by
 refine ⟨fun t ht u hu hi=>?_,fun q u hu hi=>?_,fun t ht w hw hi=>?_,fun q w hw hi=>?_⟩
 ·obtain ⟨w,h1,h2,h3⟩:=h'.s1 t ht u hu hi
  obtain ⟨x,h4,h5,h6⟩:=h.s1 t ht w h1 h2
  exact ⟨x,h4,h5,R.trans t ht _ _ _ (hk u hu) (hm w h1) (hn x h4) h3 h6⟩
 ·obtain ⟨w,h1,h2,h3⟩:=h'.s2 q u hu hi
  obtain ⟨x,h4,h5,h6⟩:=h.s2 q w h1 h2
  exact ⟨x,h4,h5,h3.trans h6⟩
 ·obtain ⟨u,h1,h2,h3⟩:=h.c1 t ht w hw hi
  obtain ⟨x,h4,h5,h6⟩:=h'.c1 t ht u h1 h2
  exact ⟨x,h4,h5,R.trans t ht _ _ _ (hk x h4) (hm u h1) (hn w hw) h6 h3⟩
 ·obtain ⟨u,h1,h2,h3⟩:=h.c2 q w hw hi
  obtain ⟨x,h4,h5,h6⟩:=h'.c2 q u h1 h2
  exact ⟨x,h4,h5,h6.trans h3⟩
omit [Inhabited α] in
theorem i7 (i:Iv):(i.openLo=false∧dL i=2*tk i.lo)∨(i.openLo=true∧dL i=2*tk i.lo+1):=by
 unfold dL; cases i.openLo <;> simp
omit [Inhabited α] in
theorem nr (i:Iv):(i.openHi=false∧ec i=2*(tk i.hi:Int))∨(i.openHi=true∧ec i=2*(tk i.hi:Int) - 1):=by
 unfold ec; cases i.openHi <;> simp
omit [Inhabited α] in
theorem sZ {i:Iv} (h:Wv i):inU i (dL i):=⟨Nat.le_refl _,h.le⟩
theorem fst_le (hw:Wv w.iv) (hm:NF eqf same red (u::n)) (hS:Sem same (u::n) m) (h:w∈m):dL u.iv≤dL w.iv:=by
 have key:∃ v∈u::n,inU v.iv (dL w.iv):=by
  rcases i7 w.iv with ⟨_,e⟩ | ⟨_,e⟩
  ·have hi:=sZ hw
   rw [e] at hi ⊢
   obtain ⟨v,h1,h2,_⟩:=hS.s1 _ hw.1.1 w h hi
   exact ⟨v,h1,h2⟩
  ·have hi:=sZ hw
   rw [e] at hi ⊢
   obtain ⟨v,h1,h2,_⟩:=hS.s2 _ w h hi
   exact ⟨v,h1,h2⟩
 obtain ⟨v,h1,h2⟩:=key
 have h3:=h2.1
 rcases List.mem_cons.1 h1 with e | h1
 ·rw [← e]; exact h3
 ·have:=hm.tail.2 v h1
  have:=(hm.wv u (List.mem_cons_self ..)).le
  omega
theorem lst_le (R:Ru D same red) (hee:∀ a,eqf a a=true) (hn:NF eqf same red (u::n)) (hm:NF eqf same red (w::m)) (hDn:∀ v∈u::n,D v.f) (hDm:∀ v∈w::m,D v.f)
 (hS:Sem same (u::n) (w::m)) (hf:dL u.iv=dL w.iv):ec w.iv≤ec u.iv:=by
 refine Classical.byContradiction fun hlt=>?_
 have hlt:ec u.iv < ec w.iv:=by omega
 have hum:u∈u::n:=List.mem_cons_self ..
 have hwm:w∈w::m:=List.mem_cons_self ..
 have hwu:=hn.wv u hum
 have hww:=hm.wv w hwm
 have hle:=hwu.le
 have nxt:∀ {v:U α},v∈u::n→∀ {q:Nat},(q:Int)=ec u.iv+1→inU v.iv q→v∈n∧dL v.iv=q:=fun {v} hv {q} hq hi=>by
  rcases List.mem_cons.1 hv with e | hv
  ·rw [e] at hi; have:=hi.2; omega
  ·have:=hn.tail.2 v hv; have:=hi.1; exact ⟨hv,by omega⟩
 have ev:∀ t,Tm t→inU u.iv (2*tk t)→inU w.iv (2*tk t)→same w.f u.f t=true:=fun t ht h1 h2=>by
  obtain ⟨v,k1,k2,k3⟩:=hS.s1 t ht w hwm h2
  rw [hn.one hum k1 h1 k2]; exact k3
 have od:∀ q,inU u.iv (2*q+1)→inU w.iv (2*q+1)→w.f=u.f:=fun q h1 h2=>by
  obtain ⟨v,k1,k2,k3⟩:=hS.s2 q w hwm h2
  rw [hn.one hum k1 h1 k2]; exact k3
 by_cases hi:u.iv.lo=u.iv.hi
 ·obtain ⟨o1,o2⟩:=hwu.2.2 (by rw [hi])
  have f1:dL u.iv=2*tk u.iv.lo:=by rcases i7 u.iv with ⟨_,e⟩ | ⟨e,_⟩; exact e; rw [o1] at e; cases e
  have l1:ec u.iv=2*(tk u.iv.lo:Int):=by rcases nr u.iv with ⟨_,e⟩ | ⟨e,_⟩; rw [hi]; exact e; rw [o2] at e; cases e
  obtain ⟨v,k1,k2,k3⟩:=hS.s2 (tk u.iv.lo) w hwm ⟨by omega,by omega⟩
  obtain ⟨k4,k5⟩:=nxt k1 (q:=2*tk u.iv.lo+1) og k2
  have hlk:=hn.nextLk k4 og
  have hvlo:v.iv.lo=u.iv.lo:=by
   rcases i7 v.iv with ⟨_,e⟩ | ⟨_,e⟩
   ·omega
   ·exact ((hn.wv v k1).1.1.inj hwu.1.1).1 og
  have h1:=(hlk (by rw [hvlo,hi])).1 hi
  rw [hvlo] at h1
  have h2:=ev _ hwu.1.1 ⟨by omega,by omega⟩ ⟨by omega,by omega⟩
  rw [k3,h1] at h2; cases h2
 ·have hlh:tk u.iv.lo < tk u.iv.hi:=by
   have:=hwu.2.1
   by_cases e:tk u.iv.lo=tk u.iv.hi
   ·exact absurd ((hwu.1.1.inj hwu.1.2).1 e) hi
   ·omega
  have hfu:=i7 u.iv
  have hfe:w.f=u.f:=by
   rcases nr u.iv with ⟨_,e⟩ | ⟨_,e⟩ <;> rcases hfu with ⟨_,e2⟩ | ⟨_,e2⟩ <;> exact od (tk u.iv.lo) ⟨by omega,by omega⟩ ⟨by omega,by omega⟩
  rcases nr u.iv with ⟨o,e⟩ | ⟨o,e⟩
  ·have hin:inU w.iv (2*tk u.iv.hi+1):=⟨by rcases hfu with ⟨_,e2⟩ | ⟨_,e2⟩ <;> omega,by omega⟩
   obtain ⟨v,k1,k2,k3⟩:=hS.s2 (tk u.iv.hi) w hwm hin
   obtain ⟨k4,k5⟩:=nxt k1 (q:=2*tk u.iv.hi+1) og k2
   have hlk:=hn.nextLk k4 og
   have hvlo:v.iv.lo=u.iv.hi:=by
    rcases i7 v.iv with ⟨_,e⟩ | ⟨_,e⟩
    ·omega
    ·exact ((hn.wv v k1).1.1.inj hwu.1.2).1 og
   have h1:=((hlk hvlo.symm).2 hi).1 o
   rw [← k3,hfe,hee] at h1; cases h1
  ·have hin:inU w.iv (2*tk u.iv.hi):=⟨by rcases hfu with ⟨_,e2⟩ | ⟨_,e2⟩ <;> omega,by omega⟩
   obtain ⟨v,k1,k2,k3⟩:=hS.s1 _ hwu.1.2 w hwm hin
   obtain ⟨k4,k5⟩:=nxt k1 (q:=2*tk u.iv.hi) og k2
   have hlk:=hn.nextLk k4 og
   obtain ⟨vo,hvlo⟩:v.iv.openLo=false∧v.iv.lo=u.iv.hi:=by
    rcases i7 v.iv with ⟨e1,e⟩ | ⟨_,e⟩
    ·exact ⟨e1,((hn.wv v k1).1.1.inj hwu.1.2).1 og⟩
    ·omega
   have h1:=((hlk hvlo.symm).2 hi).2 o vo
   rw [hvlo,← hfe,k3] at h1; cases h1
theorem head_eq (R:Ru D same red) (hrc:∀ t,Tm t→∀ f g,D f→D g→same f g t=true→red f t=red g t) (hn:NF eqf same red (u::n)) (hm:NF eqf same red (w::m)) (hDn:∀ v∈u::n,D v.f) (hDm:∀ v∈w::m,D v.f)
 (hS:Sem same (u::n) (w::m)) (hf:dL u.iv=dL w.iv) (hl:ec u.iv=ec w.iv):u=w:=by
 have hum:u∈u::n:=List.mem_cons_self ..
 have hwm:w∈w::m:=List.mem_cons_self ..
 have hwu:=hn.wv u hum
 have hww:=hm.wv w hwm
 have e1:u.iv.lo=w.iv.lo∧u.iv.openLo=w.iv.openLo:=by
  rcases i7 u.iv with ⟨o,e⟩ | ⟨o,e⟩ <;> rcases i7 w.iv with ⟨o',e'⟩ | ⟨o',e'⟩
  ·exact ⟨(hwu.1.1.inj hww.1.1).1 og,by rw [o,o']⟩
  ·omega
  ·omega
  ·exact ⟨(hwu.1.1.inj hww.1.1).1 og,by rw [o,o']⟩
 have e2:u.iv.hi=w.iv.hi∧u.iv.openHi=w.iv.openHi:=by
  rcases nr u.iv with ⟨o,e⟩ | ⟨o,e⟩ <;> rcases nr w.iv with ⟨o',e'⟩ | ⟨o',e'⟩
  ·exact ⟨(hwu.1.2.inj hww.1.2).1 og,by rw [o,o']⟩
  ·omega
  ·omega
  ·exact ⟨(hwu.1.2.inj hww.1.2).1 og,by rw [o,o']⟩
 have e3:u.f=w.f:=by
  by_cases hi:u.iv.lo=u.iv.hi
  ·obtain ⟨o1,o2⟩:=hwu.2.2 (by rw [hi])
   have f1:dL u.iv=2*tk u.iv.lo:=by rcases i7 u.iv with ⟨_,e⟩ | ⟨e,_⟩; exact e; rw [o1] at e; cases e
   have hle:=hwu.le
   have h1:=hn.inst u hum hi
   have h2:=hm.inst w hwm (by rw [← e1.1,← e2.1]; exact hi)
   obtain ⟨v,k1,k2,k3⟩:=hS.s1 _ hwu.1.1 w hwm ⟨by omega,by omega⟩
   rw [hn.one k1 hum k2 ⟨by omega,by omega⟩] at k3
   have:=hrc _ hwu.1.1 _ _ (hDm w hwm) (hDn u hum) k3
   rw [← e1.1,this,h1] at h2
   exact h2
  ·have hlh:tk u.iv.lo < tk u.iv.hi:=by
    have:=hwu.2.1
    by_cases e:tk u.iv.lo=tk u.iv.hi
    ·exact absurd ((hwu.1.1.inj hwu.1.2).1 e) hi
    ·omega
   have hin:inU u.iv (2*tk u.iv.lo+1):=by
    rcases i7 u.iv with ⟨_,e⟩ | ⟨_,e⟩ <;> rcases nr u.iv with ⟨_,e'⟩ | ⟨_,e'⟩ <;> exact ⟨by omega,by omega⟩
   have hin2:inU w.iv (2*tk u.iv.lo+1):=by
    have a1:=hin.1; have a2:=hin.2; exact ⟨by omega,by omega⟩
   obtain ⟨v,k1,k2,k3⟩:=hS.s2 _ w hwm hin2
   rw [hn.one k1 hum k2 hin] at k3
   exact k3.symm
 obtain ⟨⟨lo,hi,ol,oh⟩,f⟩:=u
 obtain ⟨⟨lo2,hi2,ol2,oh2⟩,f2⟩:=w
 simp only at e1 e2 e3
 obtain ⟨rfl,rfl⟩:=e1
 obtain ⟨rfl,rfl⟩:=e2
 rw [e3]
theorem xI (R:Ru D same red) (hrc:∀ t,Tm t→∀ f g,D f→D g→same f g t=true→red f t=red g t) (hee:∀ a,eqf a a=true) :
 ∀ {n m:List (U α)},NF eqf same red n→NF eqf same red m→(∀ v∈n,D v.f)→(∀ v∈m,D v.f)→Sem same n m→n=m
 | [],[],_,_,_,_,_=>rfl
 | [],w::m,_,hm,_,_,hS=>by
  have hw:=hm.wv w (List.mem_cons_self ..)
  have hi:=sZ hw
  rcases i7 w.iv with ⟨_,e⟩ | ⟨_,e⟩
  ·rw [e] at hi
   obtain ⟨v,h1,_⟩:=hS.s1 _ hw.1.1 w (List.mem_cons_self ..) hi
   cases h1
  ·rw [e] at hi
   obtain ⟨v,h1,_⟩:=hS.s2 _ w (List.mem_cons_self ..) hi
   cases h1
 | u::n,[],hn,_,_,_,hS=>by
  have hw:=hn.wv u (List.mem_cons_self ..)
  have hi:=sZ hw
  rcases i7 u.iv with ⟨_,e⟩ | ⟨_,e⟩
  ·rw [e] at hi
   obtain ⟨v,h1,_⟩:=hS.c1 _ hw.1.1 u (List.mem_cons_self ..) hi
   cases h1
  ·rw [e] at hi
   obtain ⟨v,h1,_⟩:=hS.c2 _ u (List.mem_cons_self ..) hi
   cases h1
 | u::n,w::m,hn,hm,hDn,hDm,hS=>by
  have hum:u∈u::n:=List.mem_cons_self ..
  have hwm:w∈w::m:=List.mem_cons_self ..
  have hS':=hS.symm R hDn hDm
  have f1:=fst_le (hm.wv w hwm) hn hS hwm
  have f2:=fst_le (hn.wv u hum) hm hS' hum
  have hf:dL u.iv=dL w.iv:=by omega
  have l1:=lst_le R hee hn hm hDn hDm hS hf
  have l2:=lst_le R hee hm hn hDm hDn hS' hf.symm
  have he:=head_eq R hrc hn hm hDn hDm hS hf og
  subst he
  obtain ⟨tn,on⟩:=hn.tail
  obtain ⟨tm,om⟩:=hm.tail
  rw [xI R hrc hee tn tm (fun v hv=>hDn v (List.mem_cons_of_mem _ hv)) (fun v hv=>hDm v (List.mem_cons_of_mem _ hv)) ?_]
  refine ⟨fun t ht v hv hi=>?_,fun q v hv hi=>?_,fun t ht v hv hi=>?_,fun q v hv hi=>?_⟩
  ·obtain ⟨x,h1,h2,h3⟩:=hS.s1 t ht v (List.mem_cons_of_mem _ hv) hi
   rcases List.mem_cons.1 h1 with e | h1
   ·rw [e] at h2; have a1:=om v hv; have a2:=hi.1; have a3:=h2.2; omega
   ·exact ⟨x,h1,h2,h3⟩
  ·obtain ⟨x,h1,h2,h3⟩:=hS.s2 q v (List.mem_cons_of_mem _ hv) hi
   rcases List.mem_cons.1 h1 with e | h1
   ·rw [e] at h2; have a1:=om v hv; have a2:=hi.1; have a3:=h2.2; omega
   ·exact ⟨x,h1,h2,h3⟩
  ·obtain ⟨x,h1,h2,h3⟩:=hS.c1 t ht v (List.mem_cons_of_mem _ hv) hi
   rcases List.mem_cons.1 h1 with e | h1
   ·rw [e] at h2; have a1:=on v hv; have a2:=hi.1; have a3:=h2.2; omega
   ·exact ⟨x,h1,h2,h3⟩
  ·obtain ⟨x,h1,h2,h3⟩:=hS.c2 q v (List.mem_cons_of_mem _ hv) hi
   rcases List.mem_cons.1 h1 with e | h1
   ·rw [e] at h2; have a1:=on v hv; have a2:=hi.1; have a3:=h2.2; omega
   ·exact ⟨x,h1,h2,h3⟩
end
end Go.Sx
