/- A part of the proof of movingnumberChecks. -/
import Derived.Test.YtpfdaoajcnophaaGreatDoorB6
import Derived.Test.YtpfdaoajcnophaaGreatDoorA4
import Derived.Laws.Concat
import Derived.Test.YtpfdaoajcnophaaGreatDoorExtK
import Derived.Test.YtpfdaoajcnophaaGreatDoorB1
import Derived.Lib.Repeat
set_option linter.unusedVariables false
set_option linter.unusedSimpArgs false
namespace Go.Sx
def fL (a:GI):Int:=bif a.neg then -(a.mag:Int) else (a.mag:Int)
def IOk (a:GI):Prop:=a.mag=0→a.neg=false
theorem ob (s:Bool) (m:Nat):IOk (aD s m):=by
 intro h
 have h:m=0:=h
 subst h
 cases s <;> rfl
theorem i4 (s:Bool) (m:Nat):fL (aD s m)=bif s then -(m:Int) else (m:Int):=by
 unfold fL aD
 by_cases h:m=0
 · subst h; cases s <;> rfl
 · cases s <;> simp [h]
theorem vG {a b:GI} (ha:IOk a) (hb:IOk b) (h:fL a=fL b):a=b:=by
 obtain ⟨s,m⟩:=a
 obtain ⟨r,n⟩:=b
 unfold fL at h
 unfold IOk at ha hb
 simp only at ha hb h
 cases s <;> cases r <;> simp only [cond_true,cond_false] at h
 · have:m=n:=by omega
   rw [this]
 · have h1:m=0:=by omega
   have h2:n=0:=by omega
   exact absurd (hb h2) (by decide)
 · have h1:m=0:=by omega
   exact absurd (ha h1) (by decide)
 · have:m=n:=by omega
   rw [this]
theorem mq (n:Int):IOk (aw n):=by
 unfold IOk aw
 intro h
 have h:n.natAbs=0:=h
 exact decide_eq_false (by omega)
theorem mS (n:Int):fL (aw n)=n:=by
 unfold fL aw
 by_cases h:n < 0
 · simp only [decide_eq_true h,cond_true]; omega
 · simp only [decide_eq_false h,cond_false]; omega
theorem x5 (m:Nat):0≤((m:Nat):Int).sign:=by
 cases m with
 | zero=>decide
 | succ m=>exact Int.le_of_lt (by rw [Int.sign_eq_one_of_pos (by omega)]; decide)
theorem po (a:GI):cM a=(fL a).sign:=by
 obtain ⟨s,m⟩:=a
 unfold cM fL
 by_cases h:m=0
 · subst h; cases s <;> rfl
 · rw [decide_eq_false h]
   cases s
   · exact (Int.sign_eq_one_of_pos (by show (0:Int) < (m:Int); omega)).symm
   · exact (Int.sign_eq_neg_one_of_neg (by show -(m:Int) < 0; omega)).symm
theorem rh (a:GI):fL (ax a)=- fL a:=by
 unfold ax
 rw [i4]
 unfold fL
 cases a.neg <;> simp
theorem uN (a b:Nat):bn a b=if a < b then -1 else if b < a then 1 else 0:=by
 unfold bn
 rcases Nat.lt_trichotomy a b with h | h | h
 · rw [show Nat.blt a b=true by rw [Nat.blt_eq]; exact h,cond_true,if_pos h]
 · subst h
   have h1:Nat.blt a a=false:=by
    cases e:Nat.blt a a with
    | false=>rfl
    | true=>rw [Nat.blt_eq] at e; omega
   rw [h1,Nat.beq_refl,if_neg (Nat.lt_irrefl _),if_neg (Nat.lt_irrefl _)]; rfl
 · have h1:Nat.blt a b=false:=by
    cases e:Nat.blt a b with
    | false=>rfl
    | true=>rw [Nat.blt_eq] at e; omega
   have h2:Nat.beq a b=false:=by
    cases e:Nat.beq a b with
    | false=>rfl
    | true=>have:=Nat.eq_of_beq_eq_true e; omega
   rw [h1,h2,if_neg (by omega),if_pos h]; rfl
theorem Add_val (a b:GI):fL (aH a b)=fL a+fL b:=by
 obtain ⟨s,m⟩:=a
 obtain ⟨r,n⟩:=b
 unfold aH dX dx
 simp only [uN]
 cases s <;> cases r
 · show fL (aD false (m+n))=(m:Int)+n
   rw [i4]; simp
 · show fL (bif decide (_≥(0:Int)) then aD false (m - n) else aD true (n - m))=(m:Int)+-n
   split <;> rename_i h1
   · simp only [show decide ((-1:Int)≥0)=false from rfl,cond_false,i4,cond_true]; omega
   · split
     · simp only [show decide ((1:Int)≥0)=true from rfl,cond_true,i4,cond_false]; omega
     · simp only [show decide ((0:Int)≥0)=true from rfl,cond_true,i4,cond_false]; omega
 · show fL (bif decide (_≥(0:Int)) then aD true (m - n) else aD false (n - m))=-(m:Int)+n
   split <;> rename_i h1
   · simp only [show decide ((-1:Int)≥0)=false from rfl,cond_false,i4,cond_true]; omega
   · split
     · simp only [show decide ((1:Int)≥0)=true from rfl,cond_true,i4,cond_false]; omega
     · simp only [show decide ((0:Int)≥0)=true from rfl,cond_true,i4,cond_false]; omega
 · show fL (aD true (m+n))=-(m:Int)+-n
   rw [i4,cond_true]; omega
theorem Add_ok (a b:GI):IOk (aH a b):=by
 unfold aH
 cases (a.neg == b.neg)
 · rw [cond_false]
   cases (decide ((bn a.mag b.mag)≥0)) <;> exact ob _ _
 · exact ob _ _
theorem aax (a b:GI):IOk (ab a b):=ob _ _
theorem ud (a:GI):IOk (ax a):=ob _ _
theorem oB (a b:GI):fL (ab a b)=fL a*fL b:=by
 obtain ⟨s,m⟩:=a
 obtain ⟨r,n⟩:=b
 unfold ab ee
 rw [i4]
 unfold fL
 cases s <;> cases r <;> simp [Int.neg_mul,Int.mul_neg]
def icmp (a b:Int):Int:=if a < b then -1 else if b < a then 1 else 0
theorem xd (a b:Int):bN a b=icmp a b:=by
 unfold bN icmp gD
 rcases Int.lt_trichotomy a b with h | h | h
 · simp [h]
 · subst h; simp
 · simp [h,show ¬ a < b by omega]
theorem mT {a b:GI} (ha:IOk a) (hb:IOk b):dC a b=icmp (fL a) (fL b):=by
 obtain ⟨s,m⟩:=a
 obtain ⟨r,n⟩:=b
 unfold dC
 rw [xd,po,po,uN]
 unfold fL icmp
 unfold IOk at ha hb
 simp only at ha hb
 cases s <;> cases r
 · simp only [bne_self_eq_false,cond_false]
   rcases Nat.lt_trichotomy m n with h | h | h
   · rw [if_pos h,if_pos (by omega)]
   · subst h; simp
   · rw [if_neg (by omega),if_pos h,if_neg (by omega),if_pos (by omega)]
 · have:n≠0:=fun e=>absurd (hb e) (by decide)
   have e1:(-(n:Int)).sign=-1:=Int.sign_eq_neg_one_of_neg (by omega)
   have e2:0≤(m:Int).sign:=x5 m
   show (if (m:Int).sign < (-(n:Int)).sign then (-1:Int) else if (-(n:Int)).sign < (m:Int).sign then 1 else 0)=if (m:Int) < -(n:Int) then -1 else if -(n:Int) < (m:Int) then 1 else 0
   simp only [e1,if_neg (show ¬ (m:Int).sign < -1 by omega),if_pos (show (-1:Int) < (m:Int).sign by omega),if_neg (show ¬ (m:Int) < -(n:Int) by omega),if_pos (show -(n:Int) < (m:Int) by omega)]
 · have:m≠0:=fun e=>absurd (ha e) (by decide)
   have e1:(-(m:Int)).sign=-1:=Int.sign_eq_neg_one_of_neg (by omega)
   have e2:0≤(n:Int).sign:=x5 n
   show (if (-(m:Int)).sign < (n:Int).sign then (-1:Int) else if (n:Int).sign < (-(m:Int)).sign then 1 else 0)=if -(m:Int) < (n:Int) then -1 else if (n:Int) < -(m:Int) then 1 else 0
   simp only [e1,if_pos (show (-1:Int) < (n:Int).sign by omega),if_pos (show -(m:Int) < (n:Int) by omega)]
 · simp only [bne_self_eq_false,cond_false,cond_true]
   rcases Nat.lt_trichotomy m n with h | h | h
   · rw [if_pos h,if_neg (by omega),if_pos (by omega)]; rfl
   · subst h; simp
   · rw [if_neg (by omega),if_pos h,if_pos (by omega)]
theorem ie (a:GI):(fL a).natAbs=a.mag:=by unfold fL; cases a.neg <;> simp
theorem vj {a b:GI} (hb:b.neg=false) (h0:b.mag≠0) (hd:b.mag ∣ a.mag):aG a b=aD a.neg (a.mag / b.mag):=by
 unfold aG aK bH
 rw [decide_eq_false h0,cond_false,Nat.mod_eq_zero_of_dvd hd,hb]
 simp
def z0:GI:=⟨false,0⟩
def jy (x:GQ):Nat:=if x.den=z0 then 1 else x.den.mag
def QOk (x:GQ):Prop:=IOk x.num∧(x.den=z0∨(x.den.neg=false∧1 < x.den.mag))∧Nat.Coprime x.num.mag (jy x)
def cK (x:GQ):Rat:=(fL x.num:Rat) / (jy x:Rat)
theorem QOk.pos {x:GQ} (h:QOk x):0 < jy x:=by
 unfold jy
 split
 · decide
 · rename_i e
   rcases h.2.1 with h1 | ⟨_,h1⟩
   · exact absurd h1 e
   · omega
theorem ut {x:GQ} (h:QOk x):cK x=⟨fL x.num,jy x,Nat.ne_of_gt h.pos,by rw [ie]; exact h.2.2⟩:=by
 rw [Rat.mk_eq_mkRat,Rat.mkRat_eq_div]; rfl
theorem jp {x y:GQ} (hx:QOk x) (hy:QOk y) (h:cK x=cK y):x=y:=by
 rw [ut hx,ut hy] at h
 injection h with h1 h2
 obtain ⟨n,d⟩:=x
 obtain ⟨m,e⟩:=y
 have e1:n=m:=vG hx.1 hy.1 h1
 have e2:d=e:=by
  unfold jy at h2
  have hx2:=hx.2.1
  have hy2:=hy.2.1
  simp only at h2 hx2 hy2
  by_cases c1:d=z0
  · by_cases c2:e=z0
    · rw [c1,c2]
    · rw [if_pos c1,if_neg c2] at h2
      rcases hy2 with h3 | ⟨_,h3⟩
      · exact absurd h3 c2
      · omega
  · by_cases c2:e=z0
    · rw [if_neg c1,if_pos c2] at h2
      rcases hx2 with h3 | ⟨_,h3⟩
      · exact absurd h3 c1
      · omega
    · rw [if_neg c1,if_neg c2] at h2
      obtain ⟨a1,a2⟩:=hx2.resolve_left c1
      obtain ⟨b1,b2⟩:=hy2.resolve_left c2
      obtain ⟨s,p⟩:=d
      obtain ⟨r,q⟩:=e
      simp only at a1 b1 h2
      rw [a1,b1,h2]
 rw [e1,e2]
theorem rD:fL rational_one=1:=mS 1
theorem ks {x:GQ} (h:QOk x):fL (aa x)=jy x∧(aa x).neg=false:=by
 unfold aa jy
 by_cases e:x.den=z0
 · rw [decide_eq_true (show x.den=⟨false,0⟩ from e),if_pos e]
   exact ⟨rD,rfl⟩
 · rw [decide_eq_false (show ¬ x.den=⟨false,0⟩ from e),if_neg e,cond_false]
   obtain ⟨h1,h2⟩:=h.2.1.resolve_left e
   refine ⟨?_,h1⟩
   unfold fL
   rw [h1]; rfl
theorem tZ {n d:GI} (hn:IOk n) (hdn:d.neg=false) (hd:d.mag≠0) :
 QOk (bif (decide ((aG d (aT n d))=rational_one)) then (⟨(aG n (aT n d)),(⟨false,0⟩:GI)⟩:GQ) else (⟨(aG n (aT n d)),(aG d (aT n d))⟩:GQ)) ∧
 cK (bif (decide ((aG d (aT n d))=rational_one)) then (⟨(aG n (aT n d)),(⟨false,0⟩:GI)⟩:GQ) else (⟨(aG n (aT n d)),(aG d (aT n d))⟩:GQ))=(fL n:Rat) / (d.mag:Rat):=by
 have hg:0 < Nat.gcd n.mag d.mag:=Nat.gcd_pos_of_pos_right _ (by omega)
 have q1:aG d (aT n d)=aD false (d.mag / Nat.gcd n.mag d.mag):=by
  have:=vj (a:=d) (b:=aT n d) rfl (by show Nat.gcd n.mag d.mag≠0; omega) (Nat.gcd_dvd_right _ _)
  rw [hdn] at this
  exact this
 have q2:aG n (aT n d)=aD n.neg (n.mag / Nat.gcd n.mag d.mag) :=
  vj (a:=n) (b:=aT n d) rfl (by show Nat.gcd n.mag d.mag≠0; omega) (Nat.gcd_dvd_left _ _)
 rw [q1,q2]
 have hdp:0 < d.mag / Nat.gcd n.mag d.mag:=Nat.div_pos (Nat.le_of_dvd (by omega) (Nat.gcd_dvd_right _ _)) hg
 have hcop:Nat.Coprime (n.mag / Nat.gcd n.mag d.mag) (d.mag / Nat.gcd n.mag d.mag):=Nat.coprime_div_gcd_div_gcd hg
 have hval:(fL (aD n.neg (n.mag / Nat.gcd n.mag d.mag)):Rat) / ((d.mag / Nat.gcd n.mag d.mag:Nat):Rat)=(fL n:Rat) / (d.mag:Rat):=by
  have e1:fL n=fL (aD n.neg (n.mag / Nat.gcd n.mag d.mag))*(Nat.gcd n.mag d.mag:Int):=by
   rw [i4]
   have:=Nat.div_mul_cancel (Nat.gcd_dvd_left n.mag d.mag)
   unfold fL
   cases n.neg
   · simp only [cond_false]; rw [← Int.natCast_mul,this]
   · simp only [cond_true]; rw [Int.neg_mul,← Int.natCast_mul,this]
  have e2:d.mag=(d.mag / Nat.gcd n.mag d.mag)*Nat.gcd n.mag d.mag:=(Nat.div_mul_cancel (Nat.gcd_dvd_right n.mag d.mag)).symm
  have g0:((Nat.gcd n.mag d.mag:Nat):Rat)≠0:=by
   intro e
   have:Nat.gcd n.mag d.mag=0:=by exact_mod_cast e
   omega
  have d0:((d.mag / Nat.gcd n.mag d.mag:Nat):Rat)≠0:=by
   intro e
   have:d.mag / Nat.gcd n.mag d.mag=0:=by exact_mod_cast e
   omega
  rw [e1,Rat.intCast_mul,Rat.intCast_natCast]
  conv=>rhs; rhs; rw [e2]
  rw [Rat.natCast_mul]
  grind
 by_cases e:d.mag / Nat.gcd n.mag d.mag=1
 · have e':aD false (d.mag / Nat.gcd n.mag d.mag)=rational_one:=by rw [e]; rfl
   rw [decide_eq_true e',cond_true]
   refine ⟨⟨ob _ _,.inl rfl,?_⟩,?_⟩
   · show Nat.Coprime (n.mag / Nat.gcd n.mag d.mag) 1; exact Nat.coprime_one_right _
   · rw [← hval,e]; rfl
 · have e':¬ aD false (d.mag / Nat.gcd n.mag d.mag)=rational_one:=fun h=>e (by
    have:(aD false (d.mag / Nat.gcd n.mag d.mag)).mag=rational_one.mag:=by rw [h]
    exact this)
   rw [decide_eq_false e',cond_false]
   have ez:¬ (aD false (d.mag / Nat.gcd n.mag d.mag))=z0:=fun h=>by
    have:(aD false (d.mag / Nat.gcd n.mag d.mag)).mag=z0.mag:=by rw [h]
    have:d.mag / Nat.gcd n.mag d.mag=0:=this
    omega
   have eq:jy (⟨aD n.neg (n.mag / Nat.gcd n.mag d.mag),aD false (d.mag / Nat.gcd n.mag d.mag)⟩:GQ)=d.mag / Nat.gcd n.mag d.mag:=if_neg ez
   refine ⟨⟨ob _ _,.inr ⟨rfl,by show 1 < d.mag / Nat.gcd n.mag d.mag; omega⟩,?_⟩,?_⟩
   · rw [eq]; exact hcop
   · unfold cK
     rw [eq,← hval]
theorem sf {n d:GI} (hn:IOk n) (hd:fL d≠0):QOk (aZ n d)∧cK (aZ n d)=(fL n:Rat) / (fL d:Rat):=by
 have hm:d.mag≠0:=fun e=>hd (by unfold fL; rw [e]; cases d.neg <;> rfl)
 unfold aZ
 rw [po]
 cases hs:d.neg with
 | false =>
  have e:fL d=(d.mag:Int):=by unfold fL; rw [hs]; rfl
  rw [decide_eq_false (by rw [e]; have:=x5 d.mag; omega),cond_false,e,Rat.intCast_natCast]
  exact tZ hn hs hm
 | true =>
  have e:fL d=-(d.mag:Int):=by unfold fL; rw [hs]; rfl
  rw [decide_eq_true (by rw [e,Int.sign_eq_neg_one_of_neg (by omega)]; decide),cond_true,e]
  have hN:(ax d).neg=false:=by
   unfold ax aD; rw [hs]; rfl
  have hM:(ax d).mag=d.mag:=rfl
  obtain ⟨k1,k2⟩:=tZ (ud n) hN (by rw [hM]; exact hm)
  refine ⟨k1,k2.trans ?_⟩
  rw [rh,hM,Rat.intCast_neg,Rat.intCast_neg,Rat.intCast_natCast]
  have d0:(d.mag:Rat)≠0:=by
   intro e
   have:d.mag=0:=by exact_mod_cast e
   omega
  grind
theorem rA {x:GQ} (h:QOk x):(jy x:Rat)≠0:=by
 intro e
 have:jy x=0:=by exact_mod_cast e
 have:=h.pos
 omega
theorem rz {x:GQ} (h:QOk x):(0:Rat) < (jy x:Rat):=by
 have:=h.pos
 exact_mod_cast this
theorem tT {x y:GQ} (hx:QOk x) (hy:QOk y):∃ D:Rat,0 < D∧(fL (aU x y).1:Rat)=cK x*D∧(fL (aU x y).2.1:Rat)=cK y*D∧(fL (aU x y).2.2:Rat)=D∧IOk (aU x y).1∧IOk (aU x y).2.1:=by
 have h1:=rz hx
 have h2:=rz hy
 unfold aU
 by_cases e:x.den=y.den
 · rw [decide_eq_true e,cond_true]
   have e2:jy x=jy y:=by unfold jy; rw [e]
   refine ⟨jy x,h1,?_,?_,?_,hx.1,hy.1⟩
   · unfold cK; show (fL x.num:Rat)=_; grind
   · unfold cK; rw [e2]; show (fL y.num:Rat)=_; grind
   · show (fL (aa x):Rat)=_
     rw [(ks hx).1,Rat.intCast_natCast]
 · rw [decide_eq_false e,cond_false]
   refine ⟨(jy x:Rat)*(jy y:Rat),Rat.mul_pos h1 h2,?_,?_,?_,aax _ _,aax _ _⟩
   · show (fL (ab x.num (aa y)):Rat)=_
     rw [oB,Rat.intCast_mul,(ks hy).1,Rat.intCast_natCast]
     unfold cK; grind
   · show (fL (ab y.num (aa x)):Rat)=_
     rw [oB,Rat.intCast_mul,(ks hx).1,Rat.intCast_natCast]
     unfold cK; grind
   · show (fL (ab (aa x) (aa y)):Rat)=_
     rw [oB,Rat.intCast_mul,(ks hx).1,(ks hy).1,Rat.intCast_natCast,Rat.intCast_natCast]
theorem jC {x y:GQ} (hx:QOk x) (hy:QOk y):QOk (aB x y)∧cK (aB x y)=cK x+cK y:=by
 obtain ⟨D,h0,h1,h2,h3,_,_⟩:=tT hx hy
 unfold aB
 have hd:fL (aU x y).2.2≠0:=fun e=>by
  rw [e] at h3
  have h4:(0:Rat)=D:=h3
  grind
 obtain ⟨k1,k2⟩:=sf (Add_ok (aU x y).1 (aU x y).2.1) hd
 refine ⟨k1,?_⟩
 rw [k2,Add_val,Rat.intCast_add,h1,h2,h3]
 grind
theorem gp {x y:GQ} (hx:QOk x) (hy:QOk y):QOk (aj x y)∧cK (aj x y)=cK x*cK y:=by
 unfold aj
 have e1:=(ks hx).1
 have e2:=(ks hy).1
 have h1:=hx.pos
 have h2:=hy.pos
 have hd:fL (ab (aa x) (aa y))≠0:=by
  rw [oB,e1,e2,← Int.natCast_mul]
  have:=Nat.mul_pos h1 h2
  omega
 obtain ⟨k1,k2⟩:=sf (aax x.num y.num) hd
 refine ⟨k1,?_⟩
 rw [k2,oB,oB,e1,e2]
 simp only [Rat.intCast_mul,Rat.intCast_natCast]
 have d1:=rA hx
 have d2:=rA hy
 unfold cK
 grind
theorem yD {x:GQ} (hx:QOk x):QOk (aM x)∧cK (aM x)=- cK x:=by
 refine ⟨⟨ud _,hx.2.1,hx.2.2⟩,?_⟩
 unfold cK aM
 show (fL (ax x.num):Rat) / (jy x:Rat)=_
 rw [rh,Rat.intCast_neg]
 grind
theorem pC {x y:GQ} (hx:QOk x) (hy:QOk y):QOk (ao x y)∧cK (ao x y)=cK x - cK y:=by
 unfold ao
 obtain ⟨k1,k2⟩:=yD hy
 obtain ⟨k3,k4⟩:=jC hx k1
 refine ⟨k3,?_⟩
 rw [k4,k2]; grind
theorem kR (n:Int):QOk (ak n)∧cK (ak n)=(n:Rat):=by
 refine ⟨⟨mq n,.inl rfl,Nat.coprime_one_right _⟩,?_⟩
 unfold cK
 show (fL (aw n):Rat) / ((1:Nat):Rat)=_
 rw [mS]
 grind
def rsgn (x:Rat):Int:=if x < 0 then -1 else if 0 < x then 1 else 0
theorem zero_ok:QOk ⟨z0,z0⟩∧cK ⟨z0,z0⟩=0:=kR 0
theorem jQ {x:GQ} (hx:QOk x):aq x=rsgn (cK x):=by
 have h1:=rz hx
 have hm:(fL x.num:Rat)=cK x*(jy x:Rat):=by unfold cK; grind
 unfold aq rsgn
 rw [po]
 rcases Int.lt_trichotomy (fL x.num) 0 with h | h | h
 · rw [Int.sign_eq_neg_one_of_neg h]
   have h2:(fL x.num:Rat) < 0:=by exact_mod_cast h
   rw [if_pos]
   rcases Rat.le_total (a:=0) (b:=cK x) with h3 | h3
   · have:=Rat.mul_nonneg h3 (Rat.le_of_lt h1)
     grind
   · by_cases h4:cK x=0
     · rw [h4] at hm; grind
     · grind
 · rw [h]
   have h2:(fL x.num:Rat)=0:=by rw [h]; rfl
   have h3:cK x=0:=by unfold cK; rw [h2]; grind
   rw [h3,if_neg (by decide),if_neg (by decide)]; rfl
 · rw [Int.sign_eq_one_of_pos h]
   have h2:(0:Rat) < (fL x.num:Rat):=by exact_mod_cast h
   have h3:0 < cK x:=by
    rcases Rat.le_total (a:=0) (b:=cK x) with h3 | h3
    · by_cases h4:cK x=0
      · rw [h4] at hm; grind
      · grind
    · have:=Rat.mul_nonneg (a:=- cK x) (by grind) (Rat.le_of_lt h1)
      grind
   rw [if_neg (by grind),if_pos h3]
def rcmp (x y:Rat):Int:=if x < y then -1 else if y < x then 1 else 0
theorem uL {x y:GQ} (hx:QOk x) (hy:QOk y):bA x y=rcmp (cK x) (cK y):=by
 unfold bA rcmp
 by_cases e:x=y
 · rw [decide_eq_true e,e]
   simp
 · rw [decide_eq_false e,cond_false]
   obtain ⟨D,h0,h1,h2,h3,k1,k2⟩:=tT hx hy
   rw [mT k1 k2]
   unfold icmp
   have key:∀ a b:Int,∀ p q:Rat,(a:Rat)=p*D→(b:Rat)=q*D→(a < b↔p < q):=by
    intro a b p q e1 e2
    rw [← Rat.intCast_lt_intCast,e1,e2]
    exact Rat.mul_lt_mul_right h0
   have i1:=key _ _ _ _ h1 h2
   have i2:=key _ _ _ _ h2 h1
   by_cases c1:cK x < cK y
   · rw [if_pos c1,if_pos (i1.2 c1)]
   · rw [if_neg c1,if_neg (fun h=>c1 (i1.1 h))]
     by_cases c2:cK y < cK x
     · rw [if_pos c2,if_pos (i2.2 c2)]
     · rw [if_neg c2,if_neg (fun h=>c2 (i2.1 h))]
end Go.Sx
namespace Go.Sx
def zQ:GQ:=⟨⟨false,0⟩,⟨false,0⟩⟩
theorem jK:QOk zQ∧cK zQ=0:=zero_ok
def DOk (q:Qd):Prop:=QOk q.c0∧QOk q.c1∧QOk q.c2
def TOk (t:GR):Prop:=QOk t.p∧QOk t.r
def lv (t:GR) (q:Qd):Rat×Rat :=
 if t.r=zQ then (cK q.c0+cK t.p*(cK q.c1+cK t.p*cK q.c2),0)
 else (cK q.c0+cK q.c2*(cK t.r - cK t.p*cK t.p),cK q.c1+(cK q.c2+cK q.c2)*cK t.p)
theorem eval_ok {q:Qd} {t:GQ} (hq:DOk q) (ht:QOk t):QOk (aW q t)∧cK (aW q t)=cK q.c0+cK t*(cK q.c1+cK t*cK q.c2):=by
 obtain ⟨h0,h1,h2⟩:=hq
 unfold aW
 obtain ⟨a1,a2⟩:=gp ht h2
 obtain ⟨b1,b2⟩:=jC h1 a1
 obtain ⟨c1,c2⟩:=gp ht b1
 obtain ⟨d1,d2⟩:=jC h0 c1
 exact ⟨d1,by rw [d2,c2,b2,a2]⟩
theorem slope_ok {q:Qd} {t:GQ} (hq:DOk q) (ht:QOk t):QOk (aR q t)∧cK (aR q t)=cK q.c1+(cK q.c2+cK q.c2)*cK t:=by
 obtain ⟨h0,h1,h2⟩:=hq
 unfold aR
 obtain ⟨a1,a2⟩:=jC h2 h2
 obtain ⟨b1,b2⟩:=gp a1 ht
 obtain ⟨c1,c2⟩:=jC h1 b1
 exact ⟨c1,by rw [c2,b2,a2]⟩
theorem xO {p q:Qd} (hp:DOk p) (hq:DOk q):DOk (cC p q)∧cK (cC p q).c0=cK p.c0 - cK q.c0∧cK (cC p q).c1=cK p.c1 - cK q.c1∧cK (cC p q).c2=cK p.c2 - cK q.c2:=by
 unfold cC
 obtain ⟨a1,a2⟩:=pC hp.1 hq.1
 obtain ⟨b1,b2⟩:=pC hp.2.1 hq.2.1
 obtain ⟨c1,c2⟩:=pC hp.2.2 hq.2.2
 exact ⟨⟨a1,b1,c1⟩,a2,b2,c2⟩
theorem pZ {a b:GQ} (ha:QOk a) (hb:QOk b):DOk (be a b)∧(be a b).c0=a∧(be a b).c1=b∧(be a b).c2=zQ:=by
 unfold be
 exact ⟨⟨ha,hb,jK.1⟩,rfl,rfl,rfl⟩
theorem iW {q:Qd} {t:GR} (hq:DOk q) (ht:TOk t):DOk (bh q t)∧cK (bh q t).c0=(lv t q).1∧cK (bh q t).c1=(lv t q).2∧(bh q t).c2=zQ:=by
 unfold bh dZ lv
 by_cases e:t.r=zQ
 · rw [decide_eq_true (show t.r=⟨⟨false,0⟩,⟨false,0⟩⟩ from e),if_pos e]
   obtain ⟨k1,k2⟩:=eval_ok hq ht.1
   exact ⟨⟨k1,jK.1,jK.1⟩,k2,jK.2,rfl⟩
 · rw [decide_eq_false (show ¬ t.r=⟨⟨false,0⟩,⟨false,0⟩⟩ from e),if_neg e,Bool.not_false,cond_true,cond_false]
   obtain ⟨a1,a2⟩:=gp ht.1 ht.1
   obtain ⟨b1,b2⟩:=pC ht.2 a1
   obtain ⟨c1,c2⟩:=gp hq.2.2 b1
   obtain ⟨d1,d2⟩:=jC hq.1 c1
   obtain ⟨s1,s2⟩:=slope_ok hq ht.1
   obtain ⟨l1,l2,l3,l4⟩:=pZ d1 s1
   exact ⟨l1,by rw [l2,d2,c2,b2,a2],by rw [l3,s2],l4⟩
theorem qd_ext {p q:Qd} (hp:DOk p) (hq:DOk q) (h0:cK p.c0=cK q.c0) (h1:cK p.c1=cK q.c1) (h2:cK p.c2=cK q.c2):p=q:=by
 have e0:=jp hp.1 hq.1 h0
 have e1:=jp hp.2.1 hq.2.1 h1
 have e2:=jp hp.2.2 hq.2.2 h2
 obtain ⟨a,b,c⟩:=p
 obtain ⟨x,y,z⟩:=q
 simp only at e0 e1 e2
 rw [e0,e1,e2]
theorem rl1 (a b c d e f p:Rat):(a - b)+p*((c - d)+p*(e - f))=(a+p*(c+p*e)) - (b+p*(d+p*f)):=by grind
theorem rl2 (a b c d x:Rat):(a - b)+(c - d)*x=(a+c*x) - (b+d*x):=by grind
theorem rl3 (a b c d x:Rat):(a - b)+((c - d)+(c - d))*x=(a+(c+c)*x) - (b+(d+d)*x):=by grind
theorem lv_sub {p q:Qd} {t:GR} (hp:DOk p) (hq:DOk q):lv t (cC p q)=((lv t p).1 - (lv t q).1,(lv t p).2 - (lv t q).2):=by
 obtain ⟨_,e0,e1,e2⟩:=xO hp hq
 unfold lv
 by_cases e:t.r=zQ
 · rw [if_pos e,if_pos e,if_pos e,e0,e1,e2,rl1]
   exact Prod.ext rfl (by show (0:Rat)=0 - 0; grind)
 · rw [if_neg e,if_neg e,if_neg e,e0,e1,e2,rl2,rl3]
theorem kY {p q:Qd} {t:GR} (hp:DOk p) (hq:DOk q) (ht:TOk t):gH p q t=true↔lv t p=lv t q:=by
 unfold gH
 rw [decide_eq_true_eq]
 obtain ⟨k1,_⟩:=xO hp hq
 obtain ⟨r1,r2,r3,r4⟩:=iW k1 ht
 rw [lv_sub hp hq] at r2 r3
 constructor
 · intro h
   rw [h] at r2 r3
   have z:=jK.2
   unfold zQ at z
   refine Prod.ext ?_ ?_
   · simp only at r2; grind
   · simp only at r3; grind
 · intro h
   refine qd_ext r1 ⟨jK.1,jK.1,jK.1⟩ ?_ ?_ ?_
   · rw [r2,h]; show _=cK zQ; rw [jK.2]; grind
   · rw [r3,h]; show _=cK zQ; rw [jK.2]; grind
   · rw [r4]; rfl
theorem nz {q:Qd} {t:GR} (hq:DOk q) (ht:TOk t):lv t (bh q t)=lv t q:=by
 obtain ⟨r1,r2,r3,r4⟩:=iW hq ht
 have h:∀ x:Qd,cK x.c0=(lv t q).1→cK x.c1=(lv t q).2→x.c2=zQ→lv t x=lv t q:=by
  intro x e0 e1 e2
  have e3:cK x.c2=0:=by rw [e2]; exact jK.2
  have e4:t.r=zQ→(lv t q).2=0:=fun e=>by unfold lv; rw [if_pos e]
  conv=>lhs; unfold lv
  split
  · rename_i e
    rw [e4 e] at e1
    refine Prod.ext ?_ ?_
    · simp only; rw [e0,e1,e3]; grind
    · simp only; rw [e4 e]
  · refine Prod.ext ?_ ?_
    · simp only; rw [e0,e3]; grind
    · simp only; rw [e1,e3]; grind
 exact h _ r2 r3 r4
theorem yg {p q:Qd} {t:GR} (hp:DOk p) (hq:DOk q) (ht:TOk t):bh p t=bh q t↔lv t p=lv t q:=by
 obtain ⟨r1,r2,r3,r4⟩:=iW hp ht
 obtain ⟨s1,s2,s3,s4⟩:=iW hq ht
 constructor
 · intro h; rw [← nz hp ht,← nz hq ht,h]
 · intro h; exact qd_ext r1 s1 (by rw [r2,s2,h]) (by rw [r3,s3,h]) (by rw [r4,s4])
end Go.Sx
namespace Go.Sx
open Go Go.RowKit Go.Proofs
set_option maxRecDepth 100000
set_option maxHeartbeats 40000000
attribute [local irreducible] Code.wp wpList Rd Step ObS Ent
attribute [local irreducible] ah ak aq an bN
theorem bld182:BuildF Tryz.prog 132 [.bool false,.string ⟨#[]⟩,.bool false,.string ⟨#[]⟩,.bool false,.string ⟨#[]⟩,.bool false,.string ⟨#[]⟩,.bool false,.bool false,.string ⟨#[]⟩,.bool false,.string ⟨#[]⟩,.bool false,.string ⟨#[]⟩,.bool false,.string ⟨#[]⟩,.bool false,.bool false,.bool false,.bool false,.string ⟨#[]⟩,.bool false,.string ⟨#[]⟩,.bool false,.string ⟨#[]⟩,.bool false,.string ⟨#[]⟩,.bool false,.string ⟨#[]⟩,.bool false,.string ⟨#[]⟩,.bool false,.string ⟨#[]⟩,.bool false,.string ⟨#[]⟩,.bool false,.string ⟨#[]⟩,.bool false,.string ⟨#[]⟩,.bool false,.string ⟨#[]⟩,.bool false,.string ⟨#[]⟩] [(0,20),(20,12),(32,12)]:=BuildF.of Tryz.zeroValue132 rfl Tryz.runUnderlying132 (by intro w; simp [Tryz.sizeOf72,Tryz.sizeOf74])
theorem bld206:BuildF Tryz.prog 199 [.bool false,.string ⟨#[]⟩,.bool false,.string ⟨#[]⟩,.bool false,.string ⟨#[]⟩,.bool false,.string ⟨#[]⟩,.bool false,.bool false] [(0,9),(9,1)]:=BuildF.of Tryz.zeroValue199 rfl Tryz.runUnderlying199 (by intro w; simp [Tryz.sizeOf4,Tryz.sizeOf46])
theorem t6:BuildF Tryz.prog 332 [.bool false,.string ⟨#[]⟩,.bool false,.string ⟨#[]⟩,.bool false,.string ⟨#[]⟩,.bool false,.string ⟨#[]⟩,.bool false,.bool false,.int .i64 0,.int .i64 0] [(0,10),(10,2)]:=BuildF.of Tryz.zeroValue332 rfl Tryz.runUnderlying332 (by intro w; simp [Tryz.sizeOf199,Tryz.sizeOf330])
theorem bld55:BuildF Tryz.prog 92 [] []:=BuildF.of Tryz.zeroValue92 rfl Tryz.runUnderlying92 (by intro w; simp)
theorem bld80:BuildF Tryz.prog 275 [] []:=BuildF.of Tryz.zeroValue275 rfl Tryz.runUnderlying275 (by intro w; simp)
theorem wD:SlT Tryz.prog 77 46 9 104 [.bool false,.string ⟨#[]⟩,.bool false,.string ⟨#[]⟩,.bool false,.string ⟨#[]⟩,.bool false,.string ⟨#[]⟩,.bool false]:=⟨Tryz.underlying77,Tryz.t46,_,Tryz.type46,rfl,rfl,rfl,rfl,rfl,by decide,by decide⟩
def aX (iv:Iv) (a:GR) (b:GR) (gap:Bool):Bool :=
 bif gap then
  ((decide ((ah iv.lo a)≤0)) && (decide ((ah b iv.hi)≤0)))
 else
  (((decide ((ah iv.lo a) < 0)) || (((ah iv.lo a) == 0) && (!iv.openLo))) && ((decide ((ah b iv.hi) < 0)) || (((ah b iv.hi) == 0) && (!iv.openHi))))
attribute [irreducible] aX
def jt (l:List GR) (x:GR) (i:Nat):(List GR) :=
 (l++[x])
def dE (l:List GR) (x:GR) (i:Nat):Nx Nat (List GR) :=
 bif (decide (((i:Nat):Int) < ((l.length:Nat):Int))) then
  bif ((ah x (gt l i)) == 0) then
   .ret l
  else
   bif ((ah x (gt l i)) == (-1)) then
    .ret ((([]++(l.take i))++[x])++(l.drop i))
   else
    .go (i+1)
 else
  .out i
def cj (l:List GR) (x:GR):(List GR) :=
 fin (bZ (fun s=>dE l x s) ((l.length - 0)+1) 0) (fun s=>jt l x s) (fun r=>r)
attribute [irreducible] cj
end Go.Sx
namespace Go.Sx
open Go Go.RowKit Go.Proofs
set_option maxRecDepth 100000
set_option maxHeartbeats 40000000
attribute [local irreducible] Code.wp wpList Rd Step ObS Ent
attribute [local irreducible] ah ak aq an bN
def zX (x:List Int) (x8:Nat):Int :=
 0
def kV (x:List Int) (x8:Nat):Nx Nat Int :=
 bif (decide (((x8:Nat):Int) < ((x.length:Nat):Int))) then
  bif ((gt x x8) != 0) then
   .ret (gt x x8)
  else
   .go (x8+1)
 else
  .out x8
def nI (x:List Int):Int :=
 fin (bZ (fun s=>kV x s) ((x.length - 0)+1) 0) (fun s=>zX x s) (fun r=>r)
theorem zW (x:List Int) (xv:Value) (w0:World) (hxv:View w0 xv x):Calls Tryz.prog 249 #[xv] w0 (dh w0 (.int .i64 (nI x)) (True)):=by
 refine enter (N:=18) (args:=[xv]) Tryz.func249 rfl rfl ?_; intro ac h
 have hlenx:=hxv.len
 obtain ⟨X1,hX1⟩:∃ X,bZ (fun s=>kV x s) ((x.length - 0)+1) 0=X:=⟨_,rfl⟩
 refine gz h <| (W) ?_; clear h ac; intro ac wo h
 refine wp_loop_ghost (fun n_ a_ w_=>∃ (x8:Nat),((x.length - x8) < n_)∧(bZ (fun s=>kV x s) n_ x8=X1)∧(x8≤x.length)∧St w0 18 [(3,(.int .i64 0)),(6,xv),(7,(.int .i64 ((x.length:Nat):Int))),(8,(.int .i64 ((x8:Nat):Int)))] [] a_ w_) ((x.length - 0)+1) ⟨0,og,hX1,og,h.rs⟩ ?_
 clear h ac wo; rintro n1 ac wo ⟨x8,hm1,hL1,hx8,h⟩
 obtain ⟨m1,rfl⟩:∃ m,n1=m+1:=⟨n1 - 1,by omega⟩
 refine gz h <| (ai) ?_ ?_ <;> clear h ac wo <;> intro ac wo h hc1
 ·
  have hd1:=of_decide_eq_true hc1
  refine gz h <| (ai) ?_ ?_ <;> clear h ac wo <;> intro ac wo h hc2
  ·
   have hq2:=hc2; try simp at hq2
   have hr1:=lh hL1 pt
   have hd:nI x=(gt x x8):=pt
   refine gz h <| (W) ?_; clear h ac wo; intro ac wo h
   exact (rt h) (h.retP (by rw [hd] <;> rfl) trivial)
  ·
   have hq2:=hc2; try simp at hq2
   refine gz h <| (W) ?_; clear h ac wo; intro ac wo h
   have hg:=cZ hL1 pt
   exact az ⟨m1,og,_,og,hg,og,h.re []⟩
 ·
  have hd1:=of_decide_eq_false hc1
  have hx1:=eh hL1 pt
  have hd:nI x=0:=pt
  refine gz h <| (W) ?_; clear h ac wo; intro ac wo h
  exact (rt h) (h.retP (by rw [hd] <;> rfl) trivial)
attribute [irreducible] nI
end Go.Sx
namespace Go.Sx
section
variable {α:Type} [Inhabited α] (c:α→α→Int)
def isB2 (a:Nat) (j:Nat) (d:List α):Nx (Nat×List α) (List α) :=
 bif ((decide (((j:Nat):Int)>((a:Nat):Int))) && (decide ((c (gt d j) (gt d (j - 1))) < 0))) then
  .go ((j - 1),((d.set j (gt d (j - 1))).set (j - 1) (gt d j)))
 else
  .out (j,d)
def isB1 (a b i:Nat) (d:List α):Nx (Nat×List α) (List α) :=
 bif (decide (((i:Nat):Int) < ((b:Nat):Int))) then
  fin (bZ (fun s=>isB2 c a s.1 s.2) (i+1) (i,d)) (fun s=>.go ((i+1),s.2)) (fun r=>.ret r)
 else
  .out (i,d)
def tx (d:List α) (a b:Nat):List α :=
 fin (bZ (fun s=>isB1 c a b s.1 s.2) ((b+1 - (a+1))+1) ((a+1),d)) (fun s=>s.2) (fun r=>r)
def jd (x:α):List α→List α
 | []=>[x]
 | y::q=>if c x y < 0 then y::jd x q else x::y::q
def qA:List α→List α→List α
 | r,[]=>r
 | r,x::s=>qA (jd c x r) s
variable {c}
theorem oe {p:List α} {x:α} {s:List α} {j:Nat} (h:j=p.length):gt (p++x::s) j=x:=by
 subst h; simp [gt,List.getD]
omit [Inhabited α] in
theorem li (x:α):∀ r:List α,(jd c x r).length=r.length+1
 | []=>rfl
 | y::q=>by
  unfold jd
  split
  · simp [li x q]
  · rfl
theorem tA (x:α):∀ (r s:List α) (k:Nat),r.length < k→∃ j,bZ (fun s=>isB2 c 0 s.1 s.2) k (r.length,r.reverse++x::s)=.inl (j,(jd c x r).reverse++s)
 | [],s,k+1,_=>⟨0,by simp [bZ,isB2,jd]⟩
 | y::q,s,k+1,hk=>by
  have e1:gt ((y::q).reverse++x::s) ((y::q).length)=x:=oe (by simp)
  have e2:gt ((y::q).reverse++x::s) ((y::q).length - 1)=y:=by
   rw [List.reverse_cons,List.append_assoc,List.singleton_append]
   exact oe (by simp)
  have hp:(((y::q).length:Nat):Int)>((0:Nat):Int):=by simp
  by_cases h:c x y < 0
  · obtain ⟨j,hj⟩:=tA x q (y::s) k (by simp at hk; omega)
    refine ⟨j,?_⟩
    have e3:((((y::q).reverse++x::s).set (y::q).length y).set ((y::q).length - 1) x)=q.reverse++x::y::s:=by
     simp only [List.reverse_cons,List.append_assoc,List.length_cons,Nat.add_sub_cancel,List.singleton_append]
     rw [List.set_append_right _ _ (by simp),List.set_append_right _ _ (by simp)]
     simp
    have e4:isB2 c 0 (y::q).length ((y::q).reverse++x::s)=.go (q.length,q.reverse++x::y::s):=by
     unfold isB2
     rw [e1,e2,e3,decide_eq_true hp,decide_eq_true h]
     rfl
    unfold bZ
    simp only [e4]
    have ei:jd c x (y::q)=y::jd c x q:=if_pos h
    rw [hj,ei,List.reverse_cons,List.append_assoc]
    rfl
  · refine ⟨(y::q).length,?_⟩
    have e4:isB2 c 0 (y::q).length ((y::q).reverse++x::s)=.out ((y::q).length,(y::q).reverse++x::s):=by
     unfold isB2
     rw [e1,e2,decide_eq_false h,Bool.and_false]
     rfl
    unfold bZ
    simp only [e4]
    have ei:jd c x (y::q)=x::y::q:=if_neg h
    rw [ei,List.reverse_cons (a:=x),List.append_assoc]
    rfl
theorem tB (b:Nat):∀ (s r:List α) (k:Nat),r.length+s.length=b→s.length < k →
 bZ (fun s=>isB1 c 0 b s.1 s.2) k (r.length,r.reverse++s)=.inl (b,(qA c r s).reverse)
 | [],r,k+1,hb,_=>by
  have:¬ ((r.length:Nat):Int) < ((b:Nat):Int):=by simp at hb; omega
  unfold bZ isB1
  simp only [decide_eq_false this,cond_false]
  simp at hb
  rw [hb,List.append_nil]
  rfl
 | x::s,r,k+1,hb,hk=>by
  have hlt:((r.length:Nat):Int) < ((b:Nat):Int):=by simp at hb; omega
  obtain ⟨j,hj⟩:=tA (c:=c) x r s (r.length+1) (by omega)
  have ih:=tB b s (jd c x r) k (by rw [li]; simp at hb; omega) (by simp at hk; omega)
  rw [li] at ih
  unfold bZ
  have e:isB1 c 0 b r.length (r.reverse++x::s)=.go (r.length+1,(jd c x r).reverse++s):=by
   unfold isB1
   rw [decide_eq_true hlt,cond_true,hj]
   rfl
  simp only [e]
  rw [ih]
  rfl
theorem rS (d:List α):tx c d 0 d.length=(qA c [] d).reverse:=by
 unfold tx
 cases d with
 | nil=>rfl
 | cons x s =>
  have:=tB (c:=c) (x::s).length s [x] ((x::s).length+1 - (0+1)+1) (by simp; omega) (by simp only [List.length_cons]; omega)
  rw [show (0+1,x::s)=([x].length,[x].reverse++s) from rfl,mO this]
  rfl
omit [Inhabited α] in
theorem jm (x:α):∀ r:List α,(jd c x r).Perm (x::r)
 | []=>.refl _
 | y::q=>by
  unfold jd
  split
  · exact ((jm x q).cons y).trans (.swap x y q)
  · exact .refl _
omit [Inhabited α] in
theorem qW:∀ (s r:List α),(qA c r s).Perm (r++s)
 | [],r=>by simp [qA]
 | x::s,r=>by
  unfold qA
  refine (qW s _).trans ?_
  refine ((jm x r).append_right s).trans ?_
  exact List.perm_middle.symm
theorem ml (d:List α):(tx c d 0 d.length).Perm d:=by
 rw [rS]
 exact (List.reverse_perm _).trans (by simpa using qW d [])
variable {S:α→Prop}
omit [Inhabited α] in
theorem nD (hA:∀ x y,S x→S y→c x y < 0→¬ c y x < 0) (hT:∀ x y z,S x→S y→S z→¬ c x y < 0→¬ c y z < 0→¬ c x z < 0) {x:α} (hx:S x) :
 ∀ {r:List α},(∀ y∈r,S y)→r.Pairwise (fun a b=>¬ c a b < 0)→(jd c x r).Pairwise (fun a b=>¬ c a b < 0)
 | [],_,_=>List.pairwise_singleton _ _
 | y::q,hS,hp=>by
  have hy:=hS y (List.mem_cons_self ..)
  have hq:∀ z∈q,S z:=fun z hz=>hS z (List.mem_cons_of_mem _ hz)
  rw [List.pairwise_cons] at hp
  unfold jd
  split
  case isTrue h =>
   rw [List.pairwise_cons]
   refine ⟨fun z hz=>?_,nD hA hT hx hq hp.2⟩
   rcases List.mem_cons.1 ((jm x q).mem_iff.1 hz) with rfl | hz
   · exact hA _ _ hx hy h
   · exact hp.1 z hz
  case isFalse h =>
   rw [List.pairwise_cons]
   refine ⟨fun z hz=>?_,List.pairwise_cons.2 hp⟩
   rcases List.mem_cons.1 hz with rfl | hz
   · exact h
   · exact hT _ _ _ hx hy (hq z hz) h (hp.1 z hz)
omit [Inhabited α] in
theorem oN (hA:∀ x y,S x→S y→c x y < 0→¬ c y x < 0) (hT:∀ x y z,S x→S y→S z→¬ c x y < 0→¬ c y z < 0→¬ c x z < 0) :
 ∀ {s r:List α},(∀ y∈r,S y)→(∀ y∈s,S y)→r.Pairwise (fun a b=>¬ c a b < 0)→(qA c r s).Pairwise (fun a b=>¬ c a b < 0)
 | [],_,_,_,hp=>hp
 | x::s,r,hr,hs,hp=>by
  unfold qA
  refine oN hA hT (fun y hy=>?_) (fun y hy=>hs y (List.mem_cons_of_mem _ hy)) (nD hA hT (hs x (List.mem_cons_self ..)) hr hp)
  rcases List.mem_cons.1 ((jm x r).mem_iff.1 hy) with rfl | hy
  · exact hs _ (List.mem_cons_self ..)
  · exact hr y hy
theorem tw (hA:∀ x y,S x→S y→c x y < 0→¬ c y x < 0) (hT:∀ x y z,S x→S y→S z→¬ c x y < 0→¬ c y z < 0→¬ c x z < 0) {d:List α} (hd:∀ y∈d,S y) :
 (tx c d 0 d.length).Pairwise (fun a b=>¬ c b a < 0):=by
 rw [rS,List.pairwise_reverse]
 exact oN hA hT (fun _ h=>by cases h) hd .nil
end
end Go.Sx
namespace Go.Sx
def Pos (f:Nat→Rat):Prop:=∃ d:Rat,0 < d∧∃ N,∀ k,N≤k→d≤f k
def Nul (f:Nat→Rat):Prop:=∀ e:Rat,0 < e→∃ N,∀ k,N≤k→-e≤f k∧f k≤e
def Bdd (f:Nat→Rat):Prop:=∃ b:Rat,0 < b∧∀ k,-b≤f k∧f k≤b
theorem mul_pos {a b:Rat} (h:0 < a) (hc:0 < b):0 < a*b:=Rat.mul_pos h hc
theorem iq {a b:Rat} (h:0≤a) (hc:0≤b):0≤a*b:=Rat.mul_nonneg h hc
theorem div_pos {a b:Rat} (h:0 < a) (hc:0 < b):0 < a / b:=by
 rw [Rat.div_def]; exact mul_pos h (Rat.inv_pos.2 hc)
theorem Pos.add {f g:Nat→Rat}:Pos f→Pos g→Pos (fun k=>f k+g k):=by
 rintro ⟨d,hd,N,h⟩ ⟨e,he,M,h'⟩
 refine ⟨d+e,by grind,N+M,fun k hk=>?_⟩
 have:=h k (by omega); have:=h' k (by omega); grind
theorem Pos.nul {f g:Nat→Rat}:Pos f→Nul g→Pos (fun k=>f k+g k):=by
 rintro ⟨d,hd,N,h⟩ hg
 obtain ⟨M,h'⟩:=hg (d / 2) (by grind)
 refine ⟨d / 2,by grind,N+M,fun k hk=>?_⟩
 have:=h k (by omega); have:=h' k (by omega); grind
theorem Nul.add {f g:Nat→Rat} (hf:Nul f) (hg:Nul g):Nul (fun k=>f k+g k):=fun e he=>by
 obtain ⟨N,h⟩:=hf (e / 2) (by grind)
 obtain ⟨M,h'⟩:=hg (e / 2) (by grind)
 refine ⟨N+M,fun k hk=>?_⟩
 have:=h k (by omega); have:=h' k (by omega); grind
theorem Nul.neg {f:Nat→Rat} (hf:Nul f):Nul (fun k=>- f k):=fun e he=>by
 obtain ⟨N,h⟩:=hf e he
 refine ⟨N,fun k hk=>?_⟩
 have:=h k hk; grind
theorem Nul.zero:Nul (fun _=>0):=fun e he=>⟨0,fun _ _=>by grind⟩
theorem Nul.congr {f g:Nat→Rat} (h:Nul f) (e:∀ k,f k=g k):Nul g:=by
 rwa [← funext e]
theorem Pos.congr {f g:Nat→Rat} (h:Pos f) (e:∀ k,f k=g k):Pos g:=by
 rwa [← funext e]
theorem Bdd.const (c:Rat):Bdd (fun _=>c):=⟨(if 0≤c then c else -c)+1,by split <;> grind,fun _=>by split <;> grind⟩
theorem Bdd.add {f g:Nat→Rat}:Bdd f→Bdd g→Bdd (fun k=>f k+g k):=by
 rintro ⟨b,hb,h⟩ ⟨c,hc,h'⟩
 exact ⟨b+c,by grind,fun k=>by have:=h k; have:=h' k; grind⟩
theorem Bdd.neg {f:Nat→Rat}:Bdd f→Bdd (fun k=>- f k):=by
 rintro ⟨b,hb,h⟩
 exact ⟨b,hb,fun k=>by have:=h k; grind⟩
theorem aar {x y b c:Rat} (h1:-b≤x) (h2:x≤b) (h3:-c≤y) (h4:y≤c):-(b*c)≤x*y∧x*y≤b*c:=by
 have p1:=iq (show 0≤b - x by grind) (show 0≤c+y by grind)
 have p2:=iq (show 0≤b+x by grind) (show 0≤c - y by grind)
 have p3:=iq (show 0≤b - x by grind) (show 0≤c - y by grind)
 have p4:=iq (show 0≤b+x by grind) (show 0≤c+y by grind)
 constructor <;> grind
theorem Bdd.mul {f g:Nat→Rat}:Bdd f→Bdd g→Bdd (fun k=>f k*g k):=by
 rintro ⟨b,hb,h⟩ ⟨c,hc,h'⟩
 exact ⟨b*c,mul_pos hb hc,fun k=>aar (h k).1 (h k).2 (h' k).1 (h' k).2⟩
theorem Nul.mul {f g:Nat→Rat} (hf:Nul f):Bdd g→Nul (fun k=>f k*g k):=by
 rintro ⟨b,hb,h⟩ e he
 obtain ⟨N,h'⟩:=hf (e / b) (div_pos he hb)
 refine ⟨N,fun k hk=>?_⟩
 have:=aar (h' k hk).1 (h' k hk).2 (h k).1 (h k).2
 rwa [show e / b*b=e by grind] at this
theorem Pos.mul {f g:Nat→Rat}:Pos f→Pos g→Pos (fun k=>f k*g k):=by
 rintro ⟨d,hd,N,h⟩ ⟨e,he,M,h'⟩
 refine ⟨d*e,mul_pos hd he,N+M,fun k hk=>?_⟩
 have h1:=h k (by omega); have h2:=h' k (by omega)
 have p1:=iq (show 0≤f k - d by grind) (show 0≤g k by grind)
 have p2:=iq (show 0≤d by grind) (show 0≤g k - e by grind)
 grind
theorem Pos.div {f g:Nat→Rat} (hb:Bdd g):Pos (fun k=>f k*g k)→Pos g→Pos f:=by
 obtain ⟨b,hb,h⟩:=hb
 rintro ⟨d,hd,N,h1⟩ ⟨e,he,M,h2⟩
 refine ⟨d / b,div_pos hd hb,N+M,fun k hk=>?_⟩
 have h3:=h1 k (by omega); have h4:=h2 k (by omega); have h5:=h k
 refine Rat.not_lt.1 fun hn=>?_
 have p1:=mul_pos (show 0 < d / b - f k by grind) (show 0 < g k by grind)
 have p2:=iq (show 0≤d / b by have:=div_pos hd hb; grind) (show 0≤b - g k by grind)
 have p3:d / b*b=d:=by grind
 simp only at h3
 grind
theorem Nul.div {f g:Nat→Rat}:Nul (fun k=>f k*g k)→Pos g→Nul f:=by
 rintro hn ⟨e,he,M,h2⟩ c hc
 obtain ⟨N,h⟩:=hn (c*e) (mul_pos hc he)
 refine ⟨N+M,fun k hk=>?_⟩
 have h3:=h k (by omega); have h4:=h2 k (by omega)
 simp only at h3
 constructor
 · refine Rat.not_lt.1 fun hx=>?_
   have p1:=mul_pos (show 0 < -c - f k by grind) (show 0 < g k by grind)
   have p2:=iq (show 0≤c by grind) (show 0≤g k - e by grind)
   grind
 · refine Rat.not_lt.1 fun hx=>?_
   have p1:=mul_pos (show 0 < f k - c by grind) (show 0 < g k by grind)
   have p2:=iq (show 0≤c by grind) (show 0≤g k - e by grind)
   grind
theorem Pos.const {c:Rat} (h:0 < c):Pos (fun _=>c):=⟨c,h,0,fun _ _=>by grind⟩
theorem Pos.not_nul {f:Nat→Rat}:Pos f→¬ Nul f:=by
 rintro ⟨d,hd,N,h⟩ hn
 obtain ⟨M,h'⟩:=hn (d / 2) (by grind)
 have:=h (N+M) (by omega); have:=h' (N+M) (by omega); grind
theorem Pos.asymm {f:Nat→Rat}:Pos f→¬ Pos (fun k=>- f k):=by
 rintro ⟨d,hd,N,h⟩ ⟨e,he,M,h'⟩
 have:=h (N+M) (by omega); have:=h' (N+M) (by omega); grind
def Sg (f:Nat→Rat) (s:Int):Prop:=(s=1∧Pos f)∨(s=-1∧Pos (fun k=>- f k))∨(s=0∧Nul f)
theorem Sg.congr {f g:Nat→Rat} {s:Int} (h:Sg f s) (e:∀ k,f k=g k):Sg g s:=by
 rwa [← funext e]
theorem Sg.uniq {f:Nat→Rat} {s t:Int}:Sg f s→Sg f t→s=t:=by
 have hnn:∀ {f:Nat→Rat},Pos (fun k=>- f k)→¬ Nul f:=fun h hn=>h.not_nul hn.neg
 rintro (⟨rfl,h⟩ | ⟨rfl,h⟩ | ⟨rfl,h⟩) (⟨rfl,h'⟩ | ⟨rfl,h'⟩ | ⟨rfl,h'⟩) <;> first | rfl | exfalso
 · exact h.asymm h'
 · exact h.not_nul h'
 · exact h'.asymm h
 · exact hnn h h'
 · exact h'.not_nul h
 · exact hnn h' h
theorem Sg.neg {f:Nat→Rat} {s:Int}:Sg f s→Sg (fun k=>- f k) (-s):=by
 rintro (⟨rfl,h⟩ | ⟨rfl,h⟩ | ⟨rfl,h⟩)
 · exact .inr (.inl ⟨rfl,h.congr fun k=>by grind⟩)
 · exact .inl ⟨rfl,h⟩
 · exact .inr (.inr ⟨rfl,h.neg⟩)
theorem Sg.nul {f g:Nat→Rat} {s:Int} (hg:Nul g):Sg f s→Sg (fun k=>f k+g k) s:=by
 rintro (⟨rfl,h⟩ | ⟨rfl,h⟩ | ⟨rfl,h⟩)
 · exact .inl ⟨rfl,h.nul hg⟩
 · exact .inr (.inl ⟨rfl,(h.nul hg.neg).congr fun k=>by grind⟩)
 · exact .inr (.inr ⟨rfl,h.add hg⟩)
theorem Sg.mul {f g:Nat→Rat} {s t:Int} (bf:Bdd f) (bg:Bdd g):Sg f s→Sg g t→Sg (fun k=>f k*g k) (s*t):=by
 rintro (⟨rfl,h⟩ | ⟨rfl,h⟩ | ⟨rfl,h⟩) (⟨rfl,h'⟩ | ⟨rfl,h'⟩ | ⟨rfl,h'⟩)
 · exact .inl ⟨rfl,h.mul h'⟩
 · exact .inr (.inl ⟨rfl,(h.mul h').congr fun k=>by grind⟩)
 · exact .inr (.inr ⟨rfl,(h'.mul bf).congr fun k=>by grind⟩)
 · exact .inr (.inl ⟨rfl,(h.mul h').congr fun k=>by grind⟩)
 · exact .inl ⟨rfl,(h.mul h').congr fun k=>by grind⟩
 · exact .inr (.inr ⟨rfl,(h'.mul bf).congr fun k=>by grind⟩)
 · exact .inr (.inr ⟨by omega,h.mul bg⟩)
 · exact .inr (.inr ⟨by omega,h.mul bg⟩)
 · exact .inr (.inr ⟨rfl,h.mul bg⟩)
theorem Sg.div {f g:Nat→Rat} {s t:Int} (bg:Bdd g) (ht:t=1∨t=-1):Sg (fun k=>f k*g k) s→Sg g t→Sg f (s*t):=by
 rintro hs (⟨rfl,h'⟩ | ⟨rfl,h'⟩ | ⟨rfl,h'⟩)
 · rcases hs with ⟨rfl,h⟩ | ⟨rfl,h⟩ | ⟨rfl,h⟩
   · exact .inl ⟨rfl,h.div bg h'⟩
   · exact .inr (.inl ⟨rfl,Pos.div bg (h.congr fun k=>by grind) h'⟩)
   · exact .inr (.inr ⟨rfl,h.div h'⟩)
 · rcases hs with ⟨rfl,h⟩ | ⟨rfl,h⟩ | ⟨rfl,h⟩
   · exact .inr (.inl ⟨rfl,Pos.div bg.neg (h.congr fun k=>by grind) h'⟩)
   · exact .inl ⟨rfl,Pos.div bg.neg (h.congr fun k=>by grind) h'⟩
   · exact .inr (.inr ⟨rfl,Nul.div (h.neg.congr fun k=>by grind) h'⟩)
 · rcases ht with ht | ht <;> cases ht
theorem Sg.add {f g:Nat→Rat} {s:Int}:Sg f s→Sg g s→Sg (fun k=>f k+g k) s:=by
 rintro (⟨rfl,h⟩ | ⟨rfl,h⟩ | ⟨rfl,h⟩) (⟨e,h'⟩ | ⟨e,h'⟩ | ⟨e,h'⟩) <;> first | cases e; done | skip
 · exact .inl ⟨rfl,h.add h'⟩
 · exact .inr (.inl ⟨rfl,(h.add h').congr fun k=>by grind⟩)
 · exact .inr (.inr ⟨rfl,h.add h'⟩)
def rsg (x:Rat):Int:=if x < 0 then -1 else if 0 < x then 1 else 0
theorem Sg.const (c:Rat):Sg (fun _=>c) (rsg c):=by
 unfold rsg
 split
 · exact .inr (.inl ⟨rfl,Pos.const (by grind)⟩)
 · split
   · exact .inl ⟨rfl,Pos.const (by assumption)⟩
   · exact .inr (.inr ⟨rfl,by rw [show c=0 by grind]; exact Nul.zero⟩)
theorem arch (x:Rat):x < ((x.floor+1).toNat:Rat):=by
 have h1:=Rat.lt_floor_add_one x
 have h2:((x.floor+1:Int):Rat)≤(((x.floor+1).toNat:Int):Rat):=Rat.intCast_le_intCast.2 (by omega)
 rw [Rat.intCast_natCast] at h2
 grind
def jr (r h:Rat):Nat→Nat
 | 0=>0
 | n+1=>if r < (n:Rat)*h*((n:Rat)*h) then jr r h n else n
theorem jr_ok (r h:Rat) (hr:0≤r):∀ n:Nat,r < (n:Rat)*h*((n:Rat)*h)→(jr r h n:Rat)*h*((jr r h n:Rat)*h)≤r∧r < ((jr r h n:Rat)+1)*h*(((jr r h n:Rat)+1)*h)
 | 0,hn=>by exfalso; have:((0:Nat):Rat)=0:=rfl; rw [this] at hn; grind
 | n+1,hn=>by
  unfold jr
  split
  · rename_i hc; exact jr_ok r h hr n hc
  · rename_i hc
    refine ⟨Rat.not_lt.1 hc,?_⟩
    rw [Rat.natCast_add] at hn
    exact hn
def hr_ (r e:Rat):Rat:=e / (2*(r+1)+1+e)
def un (r e:Rat):Rat:=(jr r (hr_ r e) (((r+1) / hr_ r e).floor+1).toNat:Rat)*hr_ r e
theorem root_ok (r:Rat) (hr:0≤r) (e:Rat) (he:0 < e):0≤un r e∧un r e*un r e≤r∧r≤un r e*un r e+e:=by
 unfold un
 have hh:0 < hr_ r e:=div_pos he (by grind)
 have h1:hr_ r e*(2*(r+1)+1+e)=e:=by unfold hr_; grind
 generalize hr_ r e=h at hh h1 ⊢
 have hn:=arch ((r+1) / h)
 generalize (((r+1) / h).floor+1).toNat=n at hn ⊢
 have h2:(r+1) / h*h=r+1:=by grind
 have h3:r+1 < (n:Rat)*h:=by
  have:=mul_pos (show 0 < (n:Rat) - (r+1) / h by grind) hh
  grind
 obtain ⟨hj1,hj2⟩:=jr_ok r h hr n (by
  have p:=mul_pos (show 0 < (n:Rat)*h - (r+1) by grind) (show 0 < (n:Rat)*h by grind)
  have p2:=mul_pos (show 0 < r+1 by grind) (show 0 < (n:Rat)*h - (r+1) by grind)
  have p3:=iq hr hr
  grind)
 generalize jr r h n=j at hj1 hj2 ⊢
 have hj0:(0:Rat)≤(j:Rat):=by
  have:((0:Nat):Rat)≤(j:Rat):=Rat.natCast_le_natCast.2 (by omega)
  exact this
 refine ⟨iq hj0 (by grind),hj1,?_⟩
 have p:=iq hj0 (show 0≤h by grind)
 rw [show ((j:Rat)+1)*h=(j:Rat)*h+h by grind] at hj2
 generalize (j:Rat)*h=s at *
 have hs:s≤r+1:=Rat.not_lt.1 fun hc=>by
  have p1:=mul_pos (show 0 < s - (r+1) by grind) (show 0 < s by grind)
  have p2:=mul_pos (show 0 < s - (r+1) by grind) (show 0 < r+1 by grind)
  have p3:=iq hr hr
  grind
 have p1:=iq (show 0≤h by grind) (show 0≤(r+1) - s by grind)
 have p2:=iq (show 0≤h by grind) (show 0≤e by grind)
 have p4:h≤1:=Rat.not_lt.1 fun hc=>by
  have p5:=mul_pos (show 0 < h - 1 by grind) (show 0 < 2*(r+1)+1+e by grind)
  grind
 have p3:=iq (show 0≤h by grind) (show 0≤1 - h by grind)
 grind
def rtq (r:Rat) (k:Nat):Rat:=un r (1 / ((k:Rat)+1))
theorem pb {r:Rat} (hr:0≤r) (k:Nat):0≤rtq r k∧rtq r k*rtq r k≤r∧r≤rtq r k*rtq r k+1 / ((k:Rat)+1):=root_ok r hr _ (div_pos (by decide) (by
 have:((0:Nat):Rat)≤(k:Rat):=Rat.natCast_le_natCast.2 (by omega)
 have e:((0:Nat):Rat)=0:=rfl
 grind))
section
variable {r:Rat} (hr:0≤r)
include hr
theorem nS:Bdd (rtq r):=⟨r+1,by grind,fun k=>by
 obtain ⟨h0,h1,_⟩:=pb hr k
 refine ⟨by grind,Rat.not_lt.1 fun hc=>?_⟩
 have p1:=mul_pos (show 0 < rtq r k - (r+1) by grind) (show 0 < rtq r k by grind)
 have p2:=iq hr h0
 grind⟩
theorem sQ:Nul (fun k=>rtq r k*rtq r k - r):=fun e he=>by
 have hn:=arch (1 / e)
 refine ⟨((1 / e).floor+1).toNat,fun k hk=>?_⟩
 obtain ⟨_,h1,h2⟩:=pb hr k
 have h3:=Rat.natCast_le_natCast.2 hk
 have h4:1 / e*e=1:=by grind
 have h5:=div_pos (show (0:Rat) < 1 by decide) he
 have h6:1 / ((k:Rat)+1)*((k:Rat)+1)=1:=by grind
 have p1:=mul_pos (show 0 < (k:Rat)+1 - 1 / e by grind) he
 have h7:1 / ((k:Rat)+1)≤e:=Rat.not_lt.1 fun hc=>by
  have p2:=mul_pos (show 0 < 1 / ((k:Rat)+1) - e by grind) (show 0 < (k:Rat)+1 by grind)
  grind
 grind
end
theorem rtq_zero (k:Nat):rtq 0 k=0:=by
 obtain ⟨h0,h1,_⟩:=pb (Rat.le_refl:(0:Rat)≤0) k
 refine Classical.byContradiction fun hn=>?_
 have:=mul_pos (show 0 < rtq 0 k by grind) (show 0 < rtq 0 k by grind)
 grind
theorem rtq_pos {r:Rat} (hr:0 < r):Pos (rtq r):=by
 refine Pos.div (g:=rtq r) (nS (by grind)) ?_ ?_
 · exact ((Pos.const hr).nul (sQ (by grind:0≤r))).congr fun k=>by grind
 · obtain ⟨N,h⟩:=sQ (r:=r) (by grind) (r / 2) (by grind)
   obtain ⟨b,hb,hB⟩:=nS (r:=r) (by grind)
   refine ⟨r / 2 / b,div_pos (by grind) hb,N,fun k hk=>Rat.not_lt.1 fun hc=>?_⟩
   have h1:=h k hk; have h2:=pb (r:=r) (by grind) k; have h3:=hB k
   have e1:r / 2 / b*b=r / 2:=by grind
   have p1:=iq h2.1 (show 0≤b - rtq r k by grind)
   have p2:=mul_pos (show 0 < r / 2 / b - rtq r k by grind) hb
   grind
theorem rtq_sg (b:Rat) {r:Rat} (hr:0≤r):Sg (fun k=>b*rtq r k) (rsg b*rsg r) :=
 Sg.mul (Bdd.const b) (nS hr) (Sg.const b) (by
  by_cases h:0 < r
  · rw [show rsg r=1 by unfold rsg; rw [if_neg (by grind),if_pos h]]; exact .inl ⟨rfl,rtq_pos h⟩
  · rw [show r=0 by grind]; exact .inr (.inr ⟨rfl,Nul.zero.congr fun k=>(rtq_zero k).symm⟩))
def rcm (x y:Rat):Int:=if x < y then -1 else if y < x then 1 else 0
theorem yh (x y:Rat):rcm x y=rsg (x - y):=by
 unfold rcm rsg
 have h1:x < y↔x - y < 0:=by constructor <;> intro h <;> grind
 have h2:y < x↔0 < x - y:=by constructor <;> intro h <;> grind
 simp only [h1,h2]
theorem Sg.cases {f:Nat→Rat} {s:Int} (h:Sg f s):s=1∨s=-1∨s=0:=by
 rcases h with h | h | h; exact .inl h.1; exact .inr (.inl h.1); exact .inr (.inr h.1)
def sgr (m n:Int) (c:Int):Int:=if n=0∨m=n then m else if m=0 then n else m*c
theorem sgr_ok {f g:Nat→Rat} {m n c:Int} (bf:Bdd f) (bg:Bdd g) (hf:Sg f m) (hg:Sg g n) (hc:Sg (fun k=>f k*f k - g k*g k) c):Sg (fun k=>f k+g k) (sgr m n c):=by
 unfold sgr
 split
 · rename_i h
   rcases h with rfl | rfl
   · rcases hg with ⟨e,_⟩ | ⟨e,_⟩ | ⟨_,h⟩
     · cases e
     · cases e
     · exact hf.nul h
   · exact hf.add hg
 · rename_i h1
   split
   · rename_i h
     subst h
     rcases hf with ⟨e,_⟩ | ⟨e,_⟩ | ⟨_,h⟩
     · cases e
     · cases e
     · exact (hg.nul h).congr fun k=>by grind
   · rename_i h2
     have hn:n=-m:=by
      rcases hf.cases with h | h | h <;> rcases hg.cases with h' | h' | h' <;> omega
     have hm:m=1∨m=-1:=by rcases hf.cases with h | h | h <;> omega
     have hs:Sg (fun k=>f k+- g k) m:=hf.add (by have:=hg.neg; rwa [hn,Int.neg_neg] at this)
     have:=Sg.div (f:=fun k=>f k+g k) (s:=c) (bf.add bg.neg) hm (hc.congr fun k=>by grind) hs
     rwa [Int.mul_comm] at this
def wH (a b r:Rat):Int:=sgr (rsg a) (rsg b*rsg r) (rcm (a*a) (b*b*r))
theorem va (a b:Rat) {r:Rat} (hr:0≤r):Sg (fun k=>a+b*rtq r k) (wH a b r):=by
 refine sgr_ok (f:=fun _=>a) (g:=fun k=>b*rtq r k) (Bdd.const a) ((Bdd.const b).mul (nS hr)) (Sg.const a) (rtq_sg b hr) ?_
 rw [yh]
 exact ((Sg.const (a*a - b*b*r)).nul (((sQ hr).mul (Bdd.const (- (b*b)))))).congr fun k=>by grind
def yc (a b r c s:Rat):Int:=sgr (wH a b r) (rsg c*rsg s) (wH (a*a+b*b*r - c*c*s) (2*a*b) r)
theorem yb (a b c:Rat) {r s:Rat} (hr:0≤r) (hs:0≤s):Sg (fun k=>a+b*rtq r k+c*rtq s k) (yc a b r c s):=by
 refine sgr_ok (f:=fun k=>a+b*rtq r k) (g:=fun k=>c*rtq s k) ((Bdd.const a).add ((Bdd.const b).mul (nS hr))) ((Bdd.const c).mul (nS hs)) (va a b hr) (rtq_sg c hs) ?_
 refine ((va (a*a+b*b*r - c*c*s) (2*a*b) hr).nul (((sQ hr).mul (Bdd.const (b*b))).add ((sQ hs).mul (Bdd.const (- (c*c)))))).congr fun k=>by grind
end Go.Sx
namespace Go.Sx
def fac (x:GR):Rat:=bif x.neg then -1 else 1
def rv (x:GR) (k:Nat):Rat:=cK x.p+fac x*rtq (cK x.r) k
def ROk (x:GR):Prop:=QOk x.p∧QOk x.r∧((cK x.r=0∧x.neg=false)∨(0 < cK x.r∧∀ q:Rat,q*q≠cK x.r))
theorem ROk.nn {x:GR} (h:ROk x):0≤cK x.r:=by rcases h.2.2 with h | h <;> grind
theorem ROk.tok {x:GR} (h:ROk x):TOk x:=⟨h.1,h.2.1⟩
theorem q7 (x:GR):fac x*fac x=1:=by unfold fac; cases x.neg <;> decide +kernel
theorem tL (x:GR):QOk (ba x)∧cK (ba x)=fac x:=by
 unfold ba fac
 cases x.neg
 · exact kR 1
 · exact kR (-1)
theorem bsgr (m n c:Int):(bif (n == 0 || m == n) then m else bif m == 0 then n else m*c)=sgr m n c:=by
 unfold sgr
 by_cases h:n=0∨m=n
 · rw [if_pos h,show (n == 0 || m == n)=true by simpa using h]; rfl
 · rw [if_neg h,show (n == 0 || m == n)=false by simpa using h]
   by_cases h2:m=0
   · rw [if_pos h2,show (m == 0)=true by simpa using h2]; rfl
   · rw [if_neg h2,show (m == 0)=false by simpa using h2]; rfl
theorem xV {a b r:GQ} (ha:QOk a) (hb:QOk b) (hr:QOk r):eE a b r=wH (cK a) (cK b) (cK r):=by
 unfold eE wH
 rw [bsgr,jQ ha,jQ hb,jQ hr]
 obtain ⟨h1,e1⟩:=gp ha ha
 obtain ⟨h2,e2⟩:=gp hb hb
 obtain ⟨h3,e3⟩:=gp h2 hr
 rw [uL h1 h3,e1,e3,e2]
 rfl
theorem ri {x y:GR} (hx:TOk x) (hy:TOk y):ah x y=yc (cK x.p - cK y.p) (fac x) (cK x.r) (- fac y) (cK y.r):=by
 obtain ⟨f1,g1⟩:=tL x
 obtain ⟨f2,g2⟩:=tL y
 obtain ⟨f3,g3⟩:=yD f2
 obtain ⟨s1,t1⟩:=pC hx.1 hy.1
 obtain ⟨m1,n1⟩:=gp s1 s1
 obtain ⟨a1,b1⟩:=jC m1 hx.2
 obtain ⟨u1,v1⟩:=pC a1 hy.2
 obtain ⟨k1,l1⟩:=gp s1 f1
 obtain ⟨k0,l0⟩:=kR 2
 obtain ⟨k2,l2⟩:=gp k0 k1
 unfold ah yc
 rw [bsgr,xV s1 f1 hx.2,jQ f3,jQ hy.2,xV u1 k2 hx.2,t1,g1,g3,g2,v1,b1,n1,t1,l2,l0,l1,t1,g1]
 have e1:=q7 x
 have e2:=q7 y
 rw [show (cK x.p - cK y.p)*(cK x.p - cK y.p)+fac x*fac x*cK x.r - - fac y*- fac y*cK y.r=(cK x.p - cK y.p)*(cK x.p - cK y.p)+cK x.r - cK y.r by grind,
  show 2*(cK x.p - cK y.p)*fac x=((2:Int):Rat)*((cK x.p - cK y.p)*fac x) by have:((2:Int):Rat)=2:=rfl; grind]
 rfl
theorem q9 {x y:GR} (hx:ROk x) (hy:ROk y):Sg (fun k=>rv x k - rv y k) (ah x y):=by
 rw [ri hx.tok hy.tok]
 exact (yb _ _ _ hx.nn hy.nn).congr fun k=>by unfold rv; grind
theorem jo {x:Rat} (h:rsg x=0):x=0:=by unfold rsg at h; split at h; cases h; split at h; cases h; grind
theorem vf {x y:Rat} (h:rcm x y=0):x=y:=by rw [yh] at h; have:=jo h; grind
theorem rl {m n c:Int} (h:sgr m n c=0):m=0∧n=0∨m≠0∧n≠0∧m≠n∧c=0:=by
 unfold sgr at h
 split at h
 · rename_i h2; left; omega
 · split at h
   · exfalso; omega
   · rename_i h1 h2
     right
     refine ⟨h2,by omega,by omega,?_⟩
     rcases Int.mul_eq_zero.1 h with h | h
     · exact absurd h h2
     · exact h
theorem GR.ext3 {x y:GR} (h1:x.p=y.p) (h2:x.r=y.r) (h3:x.neg=y.neg):x=y:=by cases x; cases y; simp_all
theorem sq_div {u a r:Rat} (ha:a≠0) (e:u*u=4*a*a*r):u / (2*a)*(u / (2*a))=r:=by
 have h:u / (2*a)*(2*a)=u:=by grind
 generalize u / (2*a)=t at h ⊢
 have h2:(t*t - r)*(4*(a*a))=0:=by grind
 rcases Rat.mul_eq_zero.1 h2 with h | h
 · grind
 · exfalso
   rcases Rat.mul_eq_zero.1 h with h | h
   · exact absurd h (by decide)
   · rcases Rat.mul_eq_zero.1 h with h | h <;> exact ha h
theorem v6 {x y:GR} (hx:ROk x) (hy:ROk y) (h:ah x y=0):x=y:=by
 rw [ri hx.tok hy.tok] at h
 have fx:fac x≠0:=fun e=>by have:=q7 x; grind
 have fy:fac y≠0:=fun e=>by have:=q7 y; grind
 have sx:=q7 x
 have sy:=q7 y
 have ne:∀ {u:Rat},u≠0→rsg u≠0:=fun hu h=>hu (jo h)
 rcases rl h with ⟨h1,h2⟩ | ⟨h1,h2,h3,h4⟩
 · 
  have hr:cK y.r=0:=by
   rcases Int.mul_eq_zero.1 h2 with h | h
   · exact absurd (jo h) (by grind)
   · exact jo h
  rcases rl h1 with ⟨k1,k2⟩ | ⟨k1,k2,k3,k4⟩
  · have hp:=jo k1
    have hr2:cK x.r=0:=by
     rcases Int.mul_eq_zero.1 k2 with h | h
     · exact absurd (jo h) fx
     · exact jo h
    have nx:x.neg=false:=by rcases hx.2.2 with h | h; exact h.2; exfalso; grind
    have ny:y.neg=false:=by rcases hy.2.2 with h | h; exact h.2; exfalso; grind
    exact GR.ext3 (jp hx.1 hy.1 (by grind)) (jp hx.2.1 hy.2.1 (by grind)) (by rw [nx,ny])
  · exfalso
    have:=vf k4
    rcases hx.2.2 with h | h
    · rw [h.1] at k2; exact k2 (by rw [show rsg 0=0 by rfl,Int.mul_zero])
    · exact h.2 _ (by rw [this,sx]; grind)
 · have hyr:0 < cK y.r:=by
    rcases hy.2.2 with h | h
    · rw [h.1] at h2; exact absurd (by rw [show rsg 0=0 by rfl,Int.mul_zero]) h2
    · exact h.1
   have nsy:∀ q:Rat,q*q≠cK y.r:=by rcases hy.2.2 with h | h; exfalso; grind; exact h.2
   rcases rl h4 with ⟨k1,k2⟩ | ⟨k1,k2,k3,k4⟩
   · have e1:=jo k1
     rcases Int.mul_eq_zero.1 k2 with k | k
     · have e2:=jo k
       have ha:cK x.p - cK y.p=0:=by
        rcases Rat.mul_eq_zero.1 e2 with h | h
        · rcases Rat.mul_eq_zero.1 h with h | h
          · exact absurd h (by decide)
          · exact h
        · exact absurd h fx
       have hr:cK x.r=cK y.r:=by rw [ha] at e1; grind
       refine GR.ext3 (jp hx.1 hy.1 (by grind)) (jp hx.2.1 hy.2.1 hr) ?_
       refine Classical.byContradiction fun hne=>?_
       have e:fac x=- fac y:=by unfold fac; cases hx':x.neg <;> cases hy':y.neg <;> simp_all
       refine h3 ?_
       rw [ha,e,hr]
       unfold wH sgr
       rw [show rsg 0=0 by rfl]
       have n0:rsg (- fac y)*rsg (cK y.r)≠0:=h2
       rw [if_neg (fun h=>h.elim n0 fun h=>n0 h.symm),if_pos rfl]
     · exfalso
       have e2:=jo k
       refine nsy (cK x.p - cK y.p) ?_
       rw [e2] at e1; grind
   · exfalso
     have e:=vf k4
     have hxr:cK x.r≠0:=fun h=>k2 (by rw [h,show rsg 0=0 by rfl,Int.mul_zero])
     have nsx:∀ q:Rat,q*q≠cK x.r:=by rcases hx.2.2 with h | h; exact absurd h.1 hxr; exact h.2
     have ha:cK x.p - cK y.p≠0:=fun h=>k2 (by rw [h]; rw [show (2:Rat)*0*fac x=0 by grind,show rsg 0=0 by rfl,Int.zero_mul])
     generalize cK x.p - cK y.p=a at *
     generalize hu:a*a+fac x*fac x*cK x.r - - fac y*- fac y*cK y.r=u at *
     have e3:u*u=4*a*a*cK x.r:=by
      have:2*a*fac x*(2*a*fac x)=4*a*a:=by grind
      grind
     exact nsx (u / (2*a)) (sq_div ha e3)
end Go.Sx
namespace Go.Proofs
open Go.Shelf
def Tryz.lays126_ren:Go.Shelf.Ren:=⟨fun | 126=>323 | n=>n,fun | 5=>5 | 3=>3 | 9=>9 | n=>n,fun | n=>n⟩
theorem Tryz.lays126:Go.Proofs.Lays.n126 Tryz.prog Tryz.lays126_ren:={
 mixed:=by kernel_rfl
 f126:=Tryz.func323.trans (congrArg some (by kernel_rfl))
 t3:=Tryz.underlying3
 a3:=Tryz.isAgg3
 z3:=Tryz.sizeOf3
 v3:=Tryz.zeroValue3
 t5:=Tryz.underlying5
 a5:=Tryz.isAgg5
 z5:=Tryz.sizeOf5
 v5:=Tryz.zeroValue5
 t9:=Tryz.underlying9
 a9:=Tryz.isAgg9
 z9:=Tryz.sizeOf9
 v9:=Tryz.zeroValue9 }
end Go.Proofs
namespace Go.Sx
open Go Go.RowKit Go.Proofs
theorem Len8_ct (u:Nat) (hu:u < 256) (w0:World):Calls Tryz.prog 323 #[.int .u8 ((u:Nat):Int)] w0 (dh w0 (.int .i64 ((Lib.bitLen u:Nat):Int)) True):=by
 have:=mh (Any.bits_Len8 Tryz.lays126 (u:Int) w0 (by omega) (by omega))
 rw [Int.toNat_natCast] at this; exact this
section
variable {P:Program} {w0:World} {F:List (Nat×Value)}
end
end Go.Sx
namespace Go.Sx
def isq:Nat→Nat
 | 0=>0
 | n+1=>if (isq n+1)*(isq n+1)≤n+1 then isq n+1 else isq n
theorem qV:∀ a:Nat,isq a*isq a≤a∧a < (isq a+1)*(isq a+1)
 | 0=>⟨Nat.le_refl _,by decide⟩
 | n+1=>by
  obtain ⟨h1,h2⟩:=qV n
  unfold isq
  split
  · rename_i h
    refine ⟨h,?_⟩
    generalize isq n=s at *
    rw [Nat.mul_add,Nat.add_mul (s+1) 1 (s+1)]; omega
  · exact ⟨by omega,by omega⟩
theorem isq_lt {a m:Nat} (h:a < m*m):isq a < m:=by
 obtain ⟨h1,_⟩:=qV a
 refine Nat.lt_of_not_le fun hm=>?_
 have:=Nat.mul_le_mul hm hm
 omega
theorem isq_pos {a:Nat} (h:0 < a):0 < isq a:=by
 obtain ⟨_,h2⟩:=qV a
 refine Nat.pos_of_ne_zero fun e=>?_
 rw [e] at h2; omega
def nwt (a x:Nat):Nat:=(x+a / x) / 2
theorem nwt_ge {a x:Nat} (hx:0 < x):isq a≤nwt a x:=by
 obtain ⟨h1,_⟩:=qV a
 unfold nwt
 have h3:a < x*(a / x+1):=by rw [Nat.mul_add,Nat.mul_one]; have:=Nat.div_add_mod a x; have:=Nat.mod_lt a hx; omega
 generalize a / x=q at *
 generalize isq a=s at *
 rw [Nat.le_div_iff_mul_le (by decide)]
 refine Nat.le_of_not_lt fun h=>?_
 obtain ⟨d,hd⟩:∃ d,x+(q+1)+d=2*s:=⟨2*s - (x+(q+1)),by omega⟩
 have e:(x+(q+1)+d)*(x+(q+1)+d)=4*(s*s):=by rw [hd]; rw [Nat.mul_mul_mul_comm]
 generalize q+1=r at *
 have e2:4*(x*r)≤(x+r)*(x+r):=by
  rcases Nat.le_total x r with h | h
  · obtain ⟨k,rfl⟩:=Nat.le.dest h
    simp only [Nat.mul_add,Nat.add_mul]
    have:=Nat.mul_comm x k
    have:=Nat.zero_le (k*k)
    omega
  · obtain ⟨k,rfl⟩:=Nat.le.dest h
    simp only [Nat.mul_add,Nat.add_mul]
    have:=Nat.mul_comm r k
    have:=Nat.zero_le (k*k)
    omega
 have e3:(x+r)*(x+r)≤(x+r+d)*(x+r+d):=Nat.mul_le_mul (by omega) (by omega)
 omega
theorem nwt_stop {a x:Nat} (hx:isq a≤x) (h:x≤nwt a x):x=isq a:=by
 obtain ⟨_,h2⟩:=qV a
 rcases Nat.eq_zero_or_pos x with rfl | hp
 · omega
 unfold nwt at h
 rw [Nat.le_div_iff_mul_le (by decide)] at h
 have h3:x≤a / x:=by omega
 rw [Nat.le_div_iff_mul_le hp] at h3
 refine Nat.le_antisymm (Nat.le_of_not_lt fun hl=>?_) hx
 have:=Nat.mul_le_mul (show isq a+1≤x from hl) (show isq a+1≤x from hl)
 omega
attribute [irreducible] isq
end Go.Sx
namespace Go.Sx
open Go Go.RowKit
theorem uD {n:Nat} (h:0 < n):0 < (le n).length:=by rw [lr h]; simp
theorem xI {a:Nat} (h:0 < a):oC a=a / 256 ^ ((le a).length - 1):=by
 have h0:=uD h
 have h1:=qT a ((le a).length - 1) (by omega)
 have h2:a / 256 ^ ((le a).length - 1) < 256:=by
  rw [Nat.div_lt_iff_lt_mul (Nat.pow_pos (by decide)),Nat.mul_comm,← Nat.pow_succ,show ((le a).length - 1).succ=(le a).length by omega]
  exact qz a
 have e:(le a).reverse.headD 0=UInt8.ofNat (a / 256 ^ ((le a).length - 1) % 256):=by
  rw [List.headD_eq_head?_getD,List.head?_reverse,List.getLast?_eq_getElem?,h1]; rfl
 unfold oC
 rw [e,Nat.mod_eq_of_lt h2]
 simp; omega
def nbit (a:Nat):Nat:=8*((le a).length - 1)+Lib.bitLen (oC a)
theorem pA {a:Nat} (h:0 < a):oC a < 256∧1≤Lib.bitLen (oC a)∧Lib.bitLen (oC a)≤8∧oC a < 2 ^ Lib.bitLen (oC a):=by
 have h2:oC a < 256:=by unfold oC; exact ((le a).reverse.headD 0).toNat_lt
 have h3:0 < oC a:=by
  rw [xI h]; exact Nat.div_pos (nB h) (Nat.pow_pos (by decide))
 obtain ⟨b1,b2,b3⟩:=Lib.bitLenAux_bounds 64 (oC a) (by omega) (by omega)
 change 1≤Lib.bitLen (oC a) at b1
 change 2 ^ (Lib.bitLen (oC a) - 1)≤oC a at b2
 change oC a < 2 ^ Lib.bitLen (oC a) at b3
 refine ⟨h2,b1,?_,b3⟩
 refine Nat.le_of_not_lt fun hh=>?_
 have:2 ^ 8≤2 ^ (Lib.bitLen (oC a) - 1):=Nat.pow_le_pow_right (by decide) (by omega)
 omega
theorem nbit_lt {a:Nat} (h:0 < a):a < 2 ^ nbit a:=by
 obtain ⟨_,_,_,h4⟩:=pA h
 have h5:=xI h
 have h6:(0:Nat) < 256 ^ ((le a).length - 1):=Nat.pow_pos (by decide)
 unfold nbit
 rw [Nat.pow_add,show (2:Nat) ^ (8*((le a).length - 1))=256 ^ ((le a).length - 1) by rw [Nat.pow_mul]]
 have:a < 256 ^ ((le a).length - 1)*(oC a+1):=by
  rw [h5,Nat.mul_comm]
  have:=Nat.div_add_mod a (256 ^ ((le a).length - 1)); have:=Nat.mod_lt a h6; rw [Nat.add_mul,Nat.one_mul,Nat.mul_comm]; omega
 exact Nat.lt_of_lt_of_le this (Nat.mul_le_mul_left _ h4)
def rexp (a:Nat):Nat:=(nbit a+1) / 2
theorem wJ {a:Nat} (h:0 < a):isq a≤2 ^ rexp a:=by
 refine Nat.le_of_lt (isq_lt ?_)
 rw [← Nat.pow_add]
 refine Nat.lt_of_lt_of_le (nbit_lt h) (Nat.pow_le_pow_right (by decide) ?_)
 unfold rexp; omega
theorem rR (n:Nat) (h:0 < n):∀ c,le (256 ^ c*n)=List.replicate c 0++le n
 | 0=>by simp
 | c+1=>by
  have h1:256 ^ (c+1)*n=256*(256 ^ c*n):=by rw [Nat.pow_succ,Nat.mul_comm (256 ^ c) 256,Nat.mul_assoc]
  have h2:0 < 256 ^ c*n:=Nat.mul_pos (Nat.pow_pos (by decide)) h
  rw [h1,lr (by omega),Nat.mul_mod_right,Nat.mul_div_cancel_left _ (by decide),rR n h c]
  rfl
theorem yf:∀ c,Lib.repeatL [(0:UInt8)] c=List.replicate c 0
 | 0=>rfl
 | c+1=>by rw [Lib.repeatL,yf c]; rfl
theorem bs_pow (m:Nat):bs (2 ^ m)=bs (2 ^ (m % 8))++⟨(Lib.repeatL (ByteArray.data ⟨#[0]⟩).toList (m / 8)).toArray⟩:=by
 have e:2 ^ m=256 ^ (m / 8)*2 ^ (m % 8):=by
  rw [show (256:Nat)=2 ^ 8 from rfl,← Nat.pow_mul,← Nat.pow_add]; congr 1; omega
 show (⟨(le (2 ^ m)).reverse.toArray⟩:ByteArray)=_
 rw [e,rR _ (Nat.pow_pos (by decide)),show (ByteArray.data ⟨#[0]⟩).toList=[0] from rfl,yf]
 simp only [bs,ByteArray.mk_append_mk,List.reverse_append,List.reverse_replicate]
theorem le_pow (m:Nat):(le (2 ^ m)).length=m / 8+1:=by
 have e:2 ^ m=256 ^ (m / 8)*2 ^ (m % 8):=by
  rw [show (256:Nat)=2 ^ 8 from rfl,← Nat.pow_mul,← Nat.pow_add]; congr 1; omega
 rw [e,rR _ (Nat.pow_pos (by decide)),List.length_append,List.length_replicate]
 congr 1
 have h8:2 ^ (m % 8) < 256 ^ 1:=by
  have:2 ^ (m % 8)≤2 ^ 7:=Nat.pow_le_pow_right (by decide) (by omega)
  omega
 have:=(cS 1 _).2 h8
 have:=uD (Nat.pow_pos (n:=m % 8) (show 0 < 2 by decide))
 omega
theorem bs_one {x:Nat} (h0:0 < x) (h:x < 256):(⟨[UInt8.ofNat x].toArray⟩:ByteArray)=bs x:=by
 show _=(⟨(le x).reverse.toArray⟩:ByteArray)
 rw [lr h0,Nat.mod_eq_of_lt h,Nat.div_eq_of_lt h]; rfl
section
variable {P:Program} {w0:World} {F:List (Nat×Value)}
theorem r_catS {t tt:TypeId} {x y:Operand} {a b c:ByteArray} (hx:ev F x=some (.string a)) (hy:ev F y=some (.string b)) (hm:a.size+b.size≤9223372036854775807) (hc:a++b=c):Rd P w0 F [] (.binOp .add t x y tt) (.string c):=by
 subst hc
 refine dP fun o a_ w ho ha=>?_
 have h1:=run_string_add_sum (P:=P) w a b hm
 simp [execOp,ho,ha x _ hx,ha y _ hy,eqGuard_add,binOp_string_add,h1]
end
end Go.Sx
