/- A part of the proof of movingpointBoxes. -/
import Derived.Test.YtpfdaoajcnophaaGreatDoorN2
import Derived.Test.YtpfdaoajcnophaaGreatDoorM7
set_option linter.unusedVariables false
set_option linter.unusedSimpArgs false
open Go.Proofs.Tryz renaming call223 → cc223
namespace Go.Sx
theorem scanL {T R:Type} {B:T→Nx T R} (st:Nat→T) {n:Nat} {brk hit:Nat→Bool} {r:Nat→R} {o:Nat→T}
 (h:∀ i,i < n→B (st i)=bif brk i then .out (o i) else bif hit i then .ret (r i) else .go (st (i+1))) (ho:B (st n)=.out (o n)) :
 ∀ k a,a≤n→n - a < k→∃ b,a≤b∧b≤n∧(∀ j,a≤j→j < b→brk j=false∧hit j=false)∧((b < n∧brk b=false∧hit b=true∧d7 B k (st a)=.inr (r b))∨((b=n∨(b < n∧brk b=true))∧d7 B k (st a)=.inl (o b)))
 | k+1,a,ha,hk=>by
  by_cases e:a=n
  · subst e
    exact ⟨a,Nat.le_refl _,Nat.le_refl _,fun j h1 h2=>by omega,.inr ⟨.inl rfl,ke k ho⟩⟩
  · have h1:=h a (by omega)
    cases hb:brk a with
    | true =>
     rw [hb,cond_true] at h1
     exact ⟨a,Nat.le_refl _,by omega,fun j h1 h2=>by omega,.inr ⟨.inr ⟨by omega,hb⟩,ke k h1⟩⟩
    | false =>
     rw [hb,cond_false] at h1
     cases hh:hit a with
     | true =>
      rw [hh,cond_true] at h1
      exact ⟨a,Nat.le_refl _,by omega,fun j h1 h2=>by omega,.inl ⟨by omega,hb,hh,zB k h1⟩⟩
     | false =>
      rw [hh,cond_false] at h1
      obtain ⟨b,b1,b2,b3,b4⟩:=scanL st h ho k (a+1) (by omega) (by omega)
      refine ⟨b,by omega,b2,fun j j1 j2=>?_,?_⟩
      · by_cases e2:j=a
        · subst e2; exact ⟨hb,hh⟩
        · exact b3 j (by omega) j2
      · rw [lC k h1]; exact b4
theorem gtmL {β:Type} [Inhabited β] {l:List β} {i:Nat} (h:i < l.length):gt l i∈l:=by rw [gF h]; exact List.getElem_mem _
theorem memL {β:Type} [Inhabited β] {l:List β} {x:β} (h:x∈l):∃ i,i < l.length∧gt l i=x:=by
 obtain ⟨i,hi,e⟩:=List.getElem_of_mem h
 exact ⟨i,hi,by rw [gF hi]; exact e⟩
section
variable [K:Key]
theorem rR {N:List (U Ln)} (hw:∀ u∈N,Tv u.iv) {t:GR} (ht:Tm t) (hm:∀ p q,p < q→q < N.length→tk (gt N p).iv.hi≤tk (gt N q).iv.hi) :
 ∀ k i j,j - i < k→i≤j→j≤N.length→(∀ p,p < i→tk (gt N p).iv.hi < tk t)→(∀ p,j≤p→p < N.length→tk t≤tk (gt N p).iv.hi) →
  ∃ m,m≤N.length∧d7 (fun s=>gj N t s.1 s.2) k (i,j)=.inl (m,m)∧(∀ p,p < m→tk (gt N p).iv.hi < tk t)∧(∀ p,m≤p→p < N.length→tk t≤tk (gt N p).iv.hi)
 | k+1,i,j,hk,hij,hj,h1,h2=>by
  by_cases e:i < j
  · have hlt:(i+j) / 2 < N.length:=by omega
    have hc:f9 (gt N ((i+j) / 2)) t=sgn (tk (gt N ((i+j) / 2)).iv.hi) (tk t):=by
     unfold f9; exact (hw _ (gtmL hlt)).2.cmp ht
    by_cases hlt2:tk (gt N ((i+j) / 2)).iv.hi < tk t
    · have hB:gj N t i j=.go (((i+j) / 2)+1,j):=by
       unfold gj
       rw [decide_eq_true (by omega:((i:Nat):Int) < ((j:Nat):Int)),hc,je hlt2]; rfl
      rw [lC (B:=fun s=>gj N t s.1 s.2) k hB]
      refine rR hw ht hm k _ _ (by omega) (by omega) hj (fun p hp=>?_) h2
      by_cases e2:p=(i+j) / 2
      · rw [e2]; exact hlt2
      · have:=hm p ((i+j) / 2) (by omega) hlt
        omega
    · have hB:gj N t i j=.go (i,(i+j) / 2):=by
       unfold gj
       rw [decide_eq_true (by omega:((i:Nat):Int) < ((j:Nat):Int)),hc]
       have:decide (sgn (tk (gt N ((i+j) / 2)).iv.hi) (tk t) < 0)=false:=by
        rcases Nat.lt_or_eq_of_le (Nat.le_of_not_lt hlt2) with h3 | h3
        · rw [jI h3]; rfl
        · rw [h3,fY]; rfl
       rw [this]; rfl
      rw [lC (B:=fun s=>gj N t s.1 s.2) k hB]
      refine rR hw ht hm k _ _ (by omega) (by omega) (by omega) h1 (fun p hp hp2=>?_)
      by_cases e2:p=(i+j) / 2
      · rw [e2]; omega
      · have:=hm ((i+j) / 2) p (by omega) hp2
        omega
  · have hB:gj N t i j=.out (i,j):=by
     unfold gj
     rw [decide_eq_false (by omega:¬ ((i:Nat):Int) < ((j:Nat):Int))]; rfl
    have e3:i=j:=by omega
    subst e3
    exact ⟨i,hj,ke k hB,h1,h2⟩
theorem ordL {N:List (U Ln)} (ho:N.Pairwise fun a b=>fg a.iv < (eW b.iv:Int)) {p q:Nat} (h:p < q) (hq:q < N.length):fg (gt N p).iv < (eW (gt N q).iv:Int):=by
 have:=List.pairwise_iff_getElem.1 ho p q (by omega) hq h
 rw [gF (by omega),gF hq]; exact this
theorem AtL_spec {N:List (U Ln)} (hw:∀ u∈N,Wv u.iv) (ho:N.Pairwise fun a b=>fg a.iv < (eW b.iv:Int)) {t:GR} (ht:Tm t) :
 (∃ u∈N,inU u.iv (2*tk t)∧fN N t=(u.f,true))∨((∀ u∈N,¬ inU u.iv (2*tk t))∧(fN N t).2=false):=by
 have par:∀ i:Iv,(eW i=2*tk i.lo∧i.openLo=false∨eW i=2*tk i.lo+1∧i.openLo=true)∧(fg i=2*(tk i.hi:Int)∧i.openHi=false∨fg i=2*(tk i.hi:Int) - 1∧i.openHi=true):=fun i=>by
  rcases gL i with ⟨a1,a2⟩ | ⟨a1,a2⟩ <;> rcases l8 i with ⟨b1,b2⟩ | ⟨b1,b2⟩ <;> simp [a1,a2,b1,b2]
 have hm:∀ p q,p < q→q < N.length→tk (gt N p).iv.hi≤tk (gt N q).iv.hi:=fun p q h hq=>by
  have h1:=ordL ho h hq
  have h2:=(hw _ (gtmL hq)).le
  have:=par (gt N p).iv
  have:=par (gt N q).iv
  omega
 have hm2:∀ p q,p < q→q < N.length→tk (gt N p).iv.lo≤tk (gt N q).iv.lo:=fun p q h hq=>by
  have h1:=ordL ho h hq
  have h2:=(hw _ (gtmL (by omega:p < N.length))).le
  have:=par (gt N p).iv
  have:=par (gt N q).iv
  omega
 obtain ⟨m,hmn,hl,i1,i2⟩:=rR (fun u hu=>(hw u hu).1) ht hm (N.length - 0+1) 0 N.length (by omega) (Nat.zero_le _) (Nat.le_refl _) (fun p hp=>by omega) (fun p h1 h2=>by omega)
 have hbs:(pK N t).1=(m:Int):=by
  unfold pK
  rw [ut hl]; rfl
 unfold fN
 rw [hbs,Int.toNat_natCast]
 generalize (⟨(⟨(⟨false,0⟩:GI),(⟨false,0⟩:GI)⟩:GQ),(⟨(⟨false,0⟩:GI),(⟨false,0⟩:GI)⟩:GQ),(⟨(⟨false,0⟩:GI),(⟨false,0⟩:GI)⟩:GQ),(⟨(⟨false,0⟩:GI),(⟨false,0⟩:GI)⟩:GQ)⟩:Ln)=z
 obtain ⟨b,b1,b2,b3,b4⟩:=scanL (B:=fun s=>fu N t s.1 s.2) (fun i=>(i,z)) (n:=N.length) (brk:=fun i=>decide ((ao (((gt N i).iv).lo) t)>0))
  (hit:=fun i=>((decide ((ao (((gt N i).iv).lo) t) < 0)) || (!((gt N i).iv).openLo)) && ((!(decide (((gt N i).iv).hi=t))) || (!((gt N i).iv).openHi))) (r:=fun i=>((gt N i).f,true)) (o:=fun i=>(i,z))
  (fun i hi=>by
    show fu N t i z=_
    unfold fu
    rw [decide_eq_true (by omega:((i:Nat):Int) < ((N.length:Nat):Int))]; rfl)
  (by
    show fu N t N.length z=_
    unfold fu
    rw [decide_eq_false (by omega:¬ ((N.length:Nat):Int) < ((N.length:Nat):Int))]; rfl) (N.length - m+1) m hmn (by omega)
 have hk:∀ i,i < N.length→m≤i→decide ((ao (((gt N i).iv).lo) t)>0)=false →
  ((((decide ((ao (((gt N i).iv).lo) t) < 0)) || (!((gt N i).iv).openLo)) && ((!(decide (((gt N i).iv).hi=t))) || (!((gt N i).iv).openHi)))=true↔inU (gt N i).iv (2*tk t)):=fun i hi hmi hb=>by
  have hv:=(hw _ (gtmL hi)).1
  rw [hv.1.cmp ht] at hb ⊢
  have h2:=i2 i hmi hi
  have hp:=par (gt N i).iv
  have he:decide ((gt N i).iv.hi=t)=decide (tk (gt N i).iv.hi=tk t):=decide_eq_decide.2 (hv.2.inj ht).symm
  rw [he]
  unfold inU
  rcases Nat.lt_trichotomy (tk (gt N i).iv.lo) (tk t) with h1 | h1 | h1
  · rw [je h1]
    rcases hp with ⟨hp1 | hp1,hp2 | hp2⟩ <;> simp [hp1.1,hp1.2,hp2.1,hp2.2] <;> omega
  · rw [h1,fY]
    rcases hp with ⟨hp1 | hp1,hp2 | hp2⟩ <;> simp [hp1.1,hp1.2,hp2.1,hp2.2] <;> omega
  · rw [jI h1] at hb; cases hb
 rcases b4 with ⟨c1,c2,c3,c4⟩ | ⟨c1,c2⟩
 · exact .inl ⟨gt N b,gtmL c1,(hk b c1 b1 c2).1 c3,fin_r c4⟩
 · right
   refine ⟨fun u hu hi=>?_,by rw [ut c2]; rfl⟩
   obtain ⟨i,hi2,rfl⟩:=memL hu
   have hp:=par (gt N i).iv
   have hi1:=hi.1
   have hi3:=hi.2
   by_cases e1:i < m
   · have:=i1 i e1
     omega
   · by_cases e2:i < b
     · obtain ⟨d1,d2⟩:=b3 i (by omega) e2
       rw [(hk i hi2 (by omega) d1).2 hi] at d2; cases d2
     · rcases c1 with c1 | ⟨c1,c3⟩
       · omega
       · have hv:=(hw _ (gtmL c1)).1
         rw [hv.1.cmp ht] at c3
         have h3:tk t < tk (gt N b).iv.lo:=by
          rcases Nat.lt_trichotomy (tk (gt N b).iv.lo) (tk t) with h1 | h1 | h1
          · rw [je h1] at c3; cases c3
          · rw [h1,fY] at c3; cases c3
          · exact h1
         by_cases e3:i=b
         · subst e3; omega
         · have:=hm2 b i (by omega) hi2
           omega
end
end Go.Sx
namespace Go.Sx
class KeyR [K:Key]:Prop where
 r:∀ t:GR,Tm t→∃ q,Bq 200 q∧t=an q
theorem Bq.div {m n:Nat} {a b q:GQ} (ha:Bq m a) (hb:Bq n b) (hq:QOk q) (h0:aZ b≠0) (e:aZ q=aZ a / aZ b):Bq (m+n) q:=by
 obtain ⟨oa,x,y,y0,y1,x1,f⟩:=ha
 obtain ⟨ob,z,w,w0,w1,z1,g⟩:=hb
 have hz:z≠0:=fun h=>h0 (by rw [g,h]; have:=fX w0; push_cast; grind)
 have hN:=Nat.pow_pos (n:=n) (show 0 < 2 by decide)
 have hza:0 < z.natAbs:=Int.natAbs_pos.2 hz
 refine ⟨hq,x*w*z.sign,y*z.natAbs,Nat.mul_pos y0 hza,?_,?_,?_⟩
 · rw [pw]; exact Nat.mul_lt_mul_of_lt_of_le y1 (Nat.le_of_lt z1) hN
 · rw [pw,Int.natAbs_mul,Int.natAbs_mul,Int.natAbs_sign_of_ne_zero hz,Nat.mul_one]
   exact Nat.mul_lt_mul_of_lt_of_le x1 (Nat.le_of_lt w1) hN
 · rw [e,f,g]
   have h1:=fX y0
   have h2:=fX w0
   have h3:(z:Rat)≠0:=fun h=>hz (by exact_mod_cast h)
   have h4:=fX hza
   have h5:((z.natAbs:Nat):Rat)=(z.sign:Rat)*(z:Rat):=by
    have:((z.natAbs:Nat):Int)=z.sign*z:=by
     rcases Int.lt_or_gt_of_ne hz with h | h
     · rw [Int.sign_eq_neg_one_of_neg h]; omega
     · rw [Int.sign_eq_one_of_pos h]; omega
    have h6:(((z.natAbs:Nat):Int):Rat)=((z.sign*z:Int):Rat):=by rw [this]
    push_cast at h6 ⊢
    exact h6
   have h7:(z.sign:Rat)*(z.sign:Rat)=1:=by
    rcases Int.lt_or_gt_of_ne hz with h | h
    · rw [Int.sign_eq_neg_one_of_neg h]; decide +kernel
    · rw [Int.sign_eq_one_of_pos h]; decide +kernel
   push_cast
   rw [h5] at h4 ⊢
   grind
def SOk (a:Smp):Prop:=Bq 64 a.t∧Bq 64 a.p.x∧Bq 64 a.p.y
theorem SOk.q {a:Smp} (h:SOk a):QOk a.t∧QOk a.p.x∧QOk a.p.y:=⟨h.1.1,h.2.1.1,h.2.2.1⟩
theorem thr_sl {v w t u s c:GQ} (hv:Bq 64 v) (hw:Bq 64 w) (ht:Bq 64 t) (hu:Bq 64 u) (hs:QOk s) (hc:QOk c) (h:aZ t≠aZ u)
 (e:aZ s=(aZ w - aZ v) / (aZ u - aZ t)) (f:aZ c=aZ v - (aZ w - aZ v) / (aZ u - aZ t)*aZ t):Bq 258 s∧Bq 390 c:=by
 have h1:Bq 258 s:=Bq.div (hw.sub hv) (hu.sub ht) hs (by rw [(fT hu.1 ht.1).2]; grind) (by rw [e,(fT hw.1 hv.1).2,(fT hu.1 ht.1).2])
 refine ⟨h1,?_⟩
 have k:=(hv.sub (h1.mul ht)).le (show 64+(258+64)+1≤390 by decide)
 have:c=ak v (am s t):=dC hc k.1 (by rw [f,(fT hv.1 (eO hs ht.1).1).2,(eO hs ht.1).2,e])
 rw [this]; exact k
theorem thr_bl {a b:Smp} (ha:SOk a) (hb:SOk b) (h:aZ a.t≠aZ b.t):BL 390 (dA a b):=by
 obtain ⟨⟨o1,o2,o3,o4⟩,e1,e2,e3,e4⟩:=m7 ha.q hb.q h
 obtain ⟨s1,c1⟩:=thr_sl ha.2.1 hb.2.1 ha.1 hb.1 o2 o1 h e1 e2
 obtain ⟨s2,c2⟩:=thr_sl ha.2.2 hb.2.2 ha.1 hb.1 o4 o3 h e3 e4
 exact ⟨c1,s1.le (by decide),c2,s2.le (by decide)⟩
abbrev DSm (f:Ln):Prop:=DL 390 1000 f
theorem le_pwm {n m k:Nat} (h:n < 2 ^ m) (hk:m≤8*k):(le n).length≤k:=by
 refine (cp k n).2 (Nat.lt_of_lt_of_le h ?_)
 rw [show (256:Nat)=2 ^ 8 from rfl,← Nat.pow_mul]
 exact Nat.pow_le_pow_right (by decide) hk
theorem Bq.szk {m:Nat} {q:GQ} (h:Bq m q) (k:Nat) (hk:m≤8*k) {j:Nat} (hj:k*2 ^ j≤70368744177664):SzQ j q :=
 ⟨Nat.le_trans (Nat.mul_le_mul_right _ (le_pwm h.mag.1 hk)) hj,Nat.le_trans (Nat.mul_le_mul_right _ (le_pwm h.mag.2 hk)) hj⟩
theorem DSm.sz {f:Ln} (h:DSm f):SzN 30 f:=by
 obtain ⟨a,b,c,d⟩:=h.bl (by decide)
 exact ⟨a.szk 125 (by decide) (by decide),b.szk 125 (by decide) (by decide),c.szk 125 (by decide) (by decide),d.szk 125 (by decide) (by decide)⟩
def tdv (a b:Smp) (r:GQ):GQ:=aq a.t (am r (ak b.t a.t))
theorem xJ {a b:Smp} {r:GQ} (ha:QOk a.t) (hb:QOk b.t) (hr:QOk r):aZ (tdv a b r)=aZ a.t+aZ r*(aZ b.t - aZ a.t):=by
 unfold tdv
 rw [(fz ha (eO hr (fT hb ha).1).1).2,(eO hr (fT hb ha).1).2,(fT hb ha).2]
theorem pi {a b:Pnt} {r:GQ} (ha:QOk a.x∧QOk a.y) (hb:QOk b.x∧QOk b.y) (hr:QOk r) :
 (QOk (iS a b r).x∧QOk (iS a b r).y)∧aZ (iS a b r).x=aZ a.x+(aZ b.x - aZ a.x)*aZ r∧aZ (iS a b r).y=aZ a.y+(aZ b.y - aZ a.y)*aZ r:=by
 unfold iS plAdd yP plSub
 dsimp only
 obtain ⟨x1,x2⟩:=fT hb.1 ha.1
 obtain ⟨x3,x4⟩:=eO x1 hr
 obtain ⟨x5,x6⟩:=fz ha.1 x3
 obtain ⟨y1,y2⟩:=fT hb.2 ha.2
 obtain ⟨y3,y4⟩:=eO y1 hr
 obtain ⟨y5,y6⟩:=fz ha.2 y3
 exact ⟨⟨x5,y5⟩,by rw [x6,x4,x2],by rw [y6,y4,y2]⟩
theorem thr_lv {a b:Smp} (ha:SOk a) (hb:SOk b) (h:aZ a.t≠aZ b.t) (q:GQ) :
 lvN (an q) (dA a b)=((aZ a.p.x+(aZ q - aZ a.t)*((aZ b.p.x - aZ a.p.x) / (aZ b.t - aZ a.t)),0),(aZ a.p.y+(aZ q - aZ a.t)*((aZ b.p.y - aZ a.p.y) / (aZ b.t - aZ a.t)),0)):=by
 obtain ⟨o,e1,e2,e3,e4⟩:=m7 ha.q hb.q h
 obtain ⟨x,xa,xb,xc⟩:=o.X
 obtain ⟨y,ya,yb,yc⟩:=o.Y
 unfold lvN lv
 rw [if_pos (vz q).2.1,if_pos (vz q).2.1,(vz q).1,xa,xb,xc,ya,yb,yc,e1,e2,e3,e4,fB.2]
 exact Prod.ext (Prod.ext (by dsimp only; grind) rfl) (Prod.ext (by dsimp only; grind) rfl)
section
variable [K:Key] [KR:KeyR]
theorem dkS:Dk DSm where
 ru:=vm (m:=390) (M:=1000) (n:=200) (fun t ht=>by obtain ⟨q,k,rfl⟩:=KR.r t ht; rw [(vz q).1]; exact k) (by decide) (by decide)
 ok:=fun f h=>h.ok
structure Ups (l:List Smp):Prop where
 ok:∀ i,i < l.length→SOk (gt l i)
 tm:∀ i,i < l.length→Tm (an (gt l i).t)
 up:∀ i,i+1 < l.length→aZ (gt l i).t < aZ (gt l (i+1)).t
variable {l:List Smp}
omit KR in
theorem Ups.lt (h:Ups l):∀ {i j:Nat},i < j→j < l.length→aZ (gt l i).t < aZ (gt l j).t
 | i,j+1,hij,hj=>by
  have h1:=h.up j hj
  by_cases e:i=j
  · rw [e]; exact h1
  · have:=Ups.lt h (show i < j by omega) (by omega)
    grind
omit K KR in
theorem rsg_neg {r:Rat} (h:r < 0):rsg r=-1:=by unfold rsg; rw [if_pos h]
omit KR in
theorem tk_q {p q:GQ} (hp:QOk p) (hq:QOk q) (tp:Tm (an p)) (tq:Tm (an q)) (h:aZ p < aZ q):tk (an p) < tk (an q) :=
 oU tp tq (by rw [vA hp hq,rsg_neg (by grind)])
omit KR in
theorem tk_q' {p q:GQ} (hp:QOk p) (hq:QOk q) (tp:Tm (an p)) (tq:Tm (an q)) (h:tk (an p) < tk (an q)):aZ p < aZ q:=by
 refine Classical.byContradiction fun e=>?_
 by_cases e2:aZ p=aZ q
 · rw [dC hp hq e2] at h; omega
 · have:=tk_q hq hp tq tp (by grind); omega
omit KR in
theorem Ups.tk (h:Ups l) {i j:Nat} (hij:i < j) (hj:j < l.length):Go.Sx.tk (an (gt l i).t) < Go.Sx.tk (an (gt l j).t) :=
 tk_q (h.ok i (by omega)).1.1 (h.ok j hj).1.1 (h.tm i (by omega)) (h.tm j hj) (h.lt hij hj)
omit KR in
theorem Ups.tkle (h:Ups l) {i j:Nat} (hij:i≤j) (hj:j < l.length):Go.Sx.tk (an (gt l i).t)≤Go.Sx.tk (an (gt l j).t):=by
 by_cases e:i=j
 · rw [e]; exact Nat.le_refl _
 · exact Nat.le_of_lt (h.tk (by omega) hj)
omit K KR in
theorem zO {n:Nat} {u:U Ln} (h:u∈frP l n):∃ i,i < n∧u=frF l i:=by
 unfold frP at h
 obtain ⟨i,hi,rfl⟩:=List.mem_map.1 h
 exact ⟨i,List.mem_range.1 hi,rfl⟩
omit KR in
theorem Ups.wv (h:Ups l) {i:Nat} (hi:i+1 < l.length):Wv (frF l i).iv∧DSm (frF l i).f:=by
 have h1:=h.tk (Nat.lt_succ_self i) hi
 refine ⟨⟨⟨h.tm i (by omega),h.tm (i+1) hi⟩,Nat.le_of_lt h1,fun e=>absurd e (Nat.ne_of_lt h1)⟩,.inl (thr_bl (h.ok i (by omega)) (h.ok (i+1) hi) (by have:=h.up i hi; grind))⟩
omit KR in
theorem Ups.dj (h:Ups l):(frP l (l.length - 1)).Pairwise fun a b=>Dj a.iv b.iv:=by
 unfold frP
 refine List.pairwise_map.2 ((List.pairwise_lt_range (n:=l.length - 1)).imp_of_mem fun {i j} hi hj hij=>.inl ?_)
 have hj:=List.mem_range.1 hj
 have h1:=h.tkle (show i+1≤j by omega) (by omega)
 unfold fg eW frF
 simp only [cond_false,decide_eq_true (show 0 < j by omega),cond_true]
 omega
theorem Ups.normal (h:Ups l):∃ N,aU (frP l (l.length - 1))=(N,0)∧NFL DSm (frP l (l.length - 1)) N :=
 dkS.normal (fun x hx=>by obtain ⟨i,hi,rfl⟩:=zO hx; exact h.wv (i:=i) (by omega)) h.dj
theorem Ups.one (h:Ups l) (h1:l.length=1):aU [frO l]=([frO l],0):=by
 have t0:=h.tm 0 (by omega)
 have o0:=h.ok 0 (by omega)
 have hd:DSm (frO l).f:=.inl ⟨o0.2.1.le (by decide),Bq.zero (by decide),o0.2.2.le (by decide),Bq.zero (by decide)⟩
 refine dkS.self ⟨fun x hx=>?_,List.pairwise_singleton _ _,fun i hi=>?_,fun x hx _=>?_⟩ fun v hv=>?_
 · rw [List.mem_singleton.1 hx]; exact ⟨⟨t0,t0⟩,Nat.le_refl _,fun _=>⟨rfl,rfl⟩⟩
 · have:i+1 < 1:=hi; omega
 · rw [List.mem_singleton.1 hx]; exact kY hd.ok t0.ok.tok rfl rfl
 · rw [List.mem_singleton.1 hv]; exact hd
omit KR in
theorem Ups.val (h:Ups l) {i j:Nat} (hi:i+1 < l.length) (hj:j+1 < l.length) {r:GQ} (hr:QOk r) (r0:0≤aZ r) (r1:aZ r≤1) (ht:Tm (an (tdv (gt l i) (gt l (i+1)) r)))
 (hin:inU (frF l j).iv (2*Go.Sx.tk (an (tdv (gt l i) (gt l (i+1)) r)))) :
 lvN (an (tdv (gt l i) (gt l (i+1)) r)) (frF l j).f=((aZ (iS (gt l i).p (gt l (i+1)).p r).x,0),(aZ (iS (gt l i).p (gt l (i+1)).p r).y,0)):=by
 have a:=h.ok i (by omega)
 have b:=h.ok (i+1) hi
 have c:=h.ok j (by omega)
 have d:=h.ok (j+1) hj
 have hu:=h.up i hi
 have hv:=h.up j hj
 have et:=xJ (r:=r) a.q.1 b.q.1 hr
 have qt:QOk (tdv (gt l i) (gt l (i+1)) r):=(fz a.1.1 (eO hr (fT b.1.1 a.1.1).1).1).1
 obtain ⟨_,p1,p2⟩:=pi (r:=r) ⟨a.2.1.1,a.2.2.1⟩ ⟨b.2.1.1,b.2.2.1⟩ hr
 generalize tdv (gt l i) (gt l (i+1)) r=t at *
 have g1:aZ (gt l i).t≤aZ t:=by rw [et]; have:=Rat.mul_nonneg r0 (show 0≤aZ (gt l (i+1)).t - aZ (gt l i).t by grind); grind
 have g2:aZ t≤aZ (gt l (i+1)).t:=by
  rw [et]
  have:=Rat.mul_nonneg (show 0≤1 - aZ r by grind) (show 0≤aZ (gt l (i+1)).t - aZ (gt l i).t by grind)
  grind
 have g3:aZ (gt l j).t≤aZ t∧(0 < j→aZ (gt l j).t < aZ t):=by
  have e1:eW (frF l j).iv≤2*Go.Sx.tk (an t):=hin.1
  have key:¬ aZ t < aZ (gt l j).t:=fun e=>by
   have:=tk_q qt c.1.1 ht (h.tm j (by omega)) e
   have:2*Go.Sx.tk (an (gt l j).t)≤eW (frF l j).iv:=by unfold eW frF; simp only; omega
   omega
  refine ⟨by grind,fun hj0=>?_⟩
  have:eW (frF l j).iv=2*Go.Sx.tk (an (gt l j).t)+1:=by unfold eW frF; simp only [decide_eq_true hj0,cond_true]
  exact tk_q' c.1.1 qt (h.tm j (by omega)) ht (by omega)
 have g4:aZ t≤aZ (gt l (j+1)).t:=by
  have e1:((2*Go.Sx.tk (an t):Nat):Int)≤fg (frF l j).iv:=hin.2
  have:fg (frF l j).iv=2*(Go.Sx.tk (an (gt l (j+1)).t):Int):=by unfold fg frF; simp only [cond_false]; omega
  have key:¬ aZ (gt l (j+1)).t < aZ t:=fun e=>by
   have:=tk_q d.1.1 qt (h.tm (j+1) hj) ht e
   omega
  grind
 show lvN (an t) (dA (gt l j) (gt l (j+1)))=_
 rw [thr_lv c d (by grind),p1,p2]
 by_cases e:j=i
 · subst e
   have hz:aZ (gt l (j+1)).t - aZ (gt l j).t≠0:=by grind
   have k:∀ v w:Rat,(aZ t - aZ (gt l j).t)*((w - v) / (aZ (gt l (j+1)).t - aZ (gt l j).t))=(w - v)*aZ r:=fun v w=>by rw [et]; grind
   rw [k,k]
 · have e2:j+1=i:=by
    rcases Nat.lt_trichotomy j i with h1 | h1 | h1
    · by_cases e3:j+1=i
      · exact e3
      · exfalso; have:=h.lt (show j+1 < i by omega) (by omega); grind
    · exact absurd h1 e
    · exfalso
      have h2:=g3.2 (by omega)
      by_cases e3:j=i+1
      · subst e3; grind
      · have:=h.lt (show i+1 < j by omega) (by omega); grind
   subst e2
   have e5:aZ t=aZ (gt l (j+1)).t:=by grind
   have hz:aZ (gt l (j+1)).t - aZ (gt l j).t≠0:=by grind
   have hz2:aZ (gt l (j+1+1)).t - aZ (gt l (j+1)).t≠0:=by grind
   have er:aZ r=0:=by
    have:aZ r*(aZ (gt l (j+1+1)).t - aZ (gt l (j+1)).t)=0:=by grind
    rcases Rat.mul_eq_zero.1 this with h1 | h1
    · exact h1
    · exact absurd h1 hz2
   have k:∀ v w:Rat,(aZ t - aZ (gt l j).t)*((w - v) / (aZ (gt l (j+1)).t - aZ (gt l j).t))=w - v:=fun v w=>by rw [e5]; grind
   rw [k,k,er]
   exact Prod.ext (Prod.ext (by dsimp only; grind) rfl) (Prod.ext (by dsimp only; grind) rfl)
omit KR in
theorem Ups.cov (h:Ups l) {i:Nat} (hi:i+1 < l.length) {r:GQ} (hr:QOk r) (r0:0≤aZ r) (r1:aZ r≤1) (ht:Tm (an (tdv (gt l i) (gt l (i+1)) r))) :
 ∃ w∈frP l (l.length - 1),inU w.iv (2*Go.Sx.tk (an (tdv (gt l i) (gt l (i+1)) r))):=by
 have a:=h.ok i (by omega)
 have b:=h.ok (i+1) hi
 have hu:=h.up i hi
 have et:=xJ (r:=r) a.q.1 b.q.1 hr
 have qt:QOk (tdv (gt l i) (gt l (i+1)) r):=(fz a.1.1 (eO hr (fT b.1.1 a.1.1).1).1).1
 generalize tdv (gt l i) (gt l (i+1)) r=t at *
 have g1:aZ (gt l i).t≤aZ t:=by rw [et]; have:=Rat.mul_nonneg r0 (show 0≤aZ (gt l (i+1)).t - aZ (gt l i).t by grind); grind
 have g2:aZ t≤aZ (gt l (i+1)).t:=by
  rw [et]
  have:=Rat.mul_nonneg (show 0≤1 - aZ r by grind) (show 0≤aZ (gt l (i+1)).t - aZ (gt l i).t by grind)
  grind
 have le:∀ {p q:GQ},QOk p→QOk q→Tm (an p)→Tm (an q)→aZ p≤aZ q→Go.Sx.tk (an p)≤Go.Sx.tk (an q):=fun {p q} hp hq tp tq hle=>by
  refine Nat.le_of_not_lt fun e=>?_
  have:=tk_q' hq hp tq tp e
  grind
 have m1:=le a.1.1 qt (h.tm i (by omega)) ht g1
 have m2:=le qt b.1.1 ht (h.tm (i+1) hi) g2
 have mem:∀ j,j+1 < l.length→frF l j∈frP l (l.length - 1):=fun j hj=>by unfold frP; exact List.mem_map_of_mem (List.mem_range.2 (by omega))
 by_cases e:Go.Sx.tk (an (gt l i).t)=Go.Sx.tk (an t)∧0 < i
 · obtain ⟨j,rfl⟩:∃ j,i=j+1:=⟨i - 1,by omega⟩
   refine ⟨frF l j,mem j (by omega),?_,?_⟩
   · have:=h.tk (show j < j+1 by omega) (by omega)
     have h2:eW (frF l j).iv≤2*Go.Sx.tk (an (gt l j).t)+1:=by unfold eW frF; cases decide (0 < j) <;> simp
     omega
   · have:fg (frF l j).iv=2*(Go.Sx.tk (an (gt l (j+1)).t):Int):=by unfold fg frF; simp only [cond_false]; omega
     omega
 · refine ⟨frF l i,mem i hi,?_,?_⟩
   · by_cases h0:0 < i
     · have h2:eW (frF l i).iv=2*Go.Sx.tk (an (gt l i).t)+1:=by unfold eW frF; simp only [decide_eq_true h0,cond_true]
       omega
     · have h2:eW (frF l i).iv=2*Go.Sx.tk (an (gt l i).t):=by unfold eW frF; simp only [decide_eq_false h0,cond_false]; omega
       omega
   · have:fg (frF l i).iv=2*(Go.Sx.tk (an (gt l (i+1)).t):Int):=by unfold fg frF; simp only [cond_false]; omega
     omega
omit KR in
theorem Ups.at (h:Ups l) {N:List (U Ln)} (hN:NFL DSm (frP l (l.length - 1)) N) {i:Nat} (hi:i+1 < l.length) {r:GQ} (hr:QOk r) (r0:0≤aZ r) (r1:aZ r≤1) (ht:Tm (an (tdv (gt l i) (gt l (i+1)) r))) :
 atRat N (tdv (gt l i) (gt l (i+1)) r)=(iS (gt l i).p (gt l (i+1)).p r,true):=by
 have a:=h.ok i (by omega)
 have b:=h.ok (i+1) hi
 have qt:QOk (tdv (gt l i) (gt l (i+1)) r):=(fz a.1.1 (eO hr (fT b.1.1 a.1.1).1).1).1
 obtain ⟨w,hw,hin⟩:=h.cov hi hr r0 r1 ht
 rcases AtL_spec hN.nf.wv hN.nf.ord ht with ⟨u,hu,hi2,e⟩ | ⟨hno,_⟩
 · obtain ⟨w2,hw2,hin2,hs⟩:=hN.sem.s1 _ ht u hu hi2
   obtain ⟨j,hj,rfl⟩:=zO hw2
   have hv:=h.val hi (show j+1 < l.length by omega) hr r0 r1 ht hin2
   have du:=hN.ok u hu
   have dw:=(h.wv (show j+1 < l.length by omega)).2
   have hl:=(fH du.ok dw.ok ht.ok.tok).1 hs
   rw [hv] at hl
   obtain ⟨⟨px,py⟩,p1,p2⟩:=pi (r:=r) (a:=(gt l i).p) (b:=(gt l (i+1)).p) ⟨a.2.1.1,a.2.2.1⟩ ⟨b.2.1.1,b.2.2.1⟩ hr
   unfold atRat
   rw [e]
   generalize tdv (gt l i) (gt l (i+1)) r=t at *
   show (_,_)=_
   obtain ⟨ex,ev⟩:=pD (t:=t) du.ok.X.1 qt
   obtain ⟨ey,ew⟩:=pD (t:=t) du.ok.Y.1 qt
   have h1:aZ (aH (lX u.f) t)=aZ (iS (gt l i).p (gt l (i+1)).p r).x:=by
    have:=congrArg (fun x=>x.1.1) hl
    unfold lvN lv at this
    rw [if_pos (vz t).2.1,(vz t).1] at this
    rw [ev]; exact this
   have h2:aZ (aH (lY u.f) t)=aZ (iS (gt l i).p (gt l (i+1)).p r).y:=by
    have:=congrArg (fun x=>x.2.1) hl
    unfold lvN lv at this
    rw [if_pos (vz t).2.1,if_pos (vz t).2.1,(vz t).1] at this
    rw [ew]; exact this
   have h3:=dC ex px h1
   have h4:=dC ey py h2
   show ((⟨aH (lX u.f) t,aH (lY u.f) t⟩:Pnt),true)=_
   rw [h3,h4]
 · obtain ⟨u,hu,hi3,_⟩:=hN.sem.c1 _ ht w hw hin
   exact absurd hi3 (hno u hu)
end
end Go.Sx
namespace Go.Sx
open Go Go.RowKit Go.Proofs
structure XS where
 t:XQ
 x:XQ
 y:XQ
def cXS (s:XS):List Value:=cXQ s.t++(cXQ s.x++cXQ s.y)
def vXS (s:XS):Value:=.agg (cXS s).toArray
instance celXS (s:XS):Cel (vXS s) (cXS s):=⟨rfl⟩
instance dcXS (s:XS):Dc (cXS s) (vXS s):=⟨rfl⟩
def xq0:XQ:=qX oQ
instance inhXQ:Inhabited XQ:=⟨xq0⟩
instance inhXS:Inhabited XS:=⟨⟨xq0,xq0,xq0⟩⟩
theorem p9 (x:XQ):∀ c∈cXQ x,c.oneCell'=true:=by
 intro c h
 unfold cXQ cXI at h
 simp at h
 rcases h with rfl | rfl | rfl | rfl <;> rfl
instance codXQ:Cod XQ:=⟨cXQ,4,fun _=>rfl,p9,by decide⟩
instance codXS:Cod XS:=⟨cXS,12,fun _=>rfl,fun s=>dS (p9 _) (dS (p9 _) (p9 _)),by decide⟩
end Go.Sx
namespace Go.Sx
open Go Go.RowKit Go.Proofs
structure XR where
 p:XQ
 r:XQ
 neg:Bool
structure XV where
 lo:XR
 hi:XR
 openLo:Bool
 openHi:Bool
structure XL where
 x0:XQ
 x1:XQ
 y0:XQ
 y1:XQ
structure XU where
 iv:XV
 f:XL
def cXR (x:XR):List Value:=cXQ x.p++(cXQ x.r++[.bool x.neg])
def vXR (x:XR):Value:=.agg (cXR x).toArray
def cXV (x:XV):List Value:=cXR x.lo++(cXR x.hi++[.bool x.openLo,.bool x.openHi])
def vXV (x:XV):Value:=.agg (cXV x).toArray
def cXL (x:XL):List Value:=cXQ x.x0++(cXQ x.x1++(cXQ x.y0++cXQ x.y1))
def vXL (x:XL):Value:=.agg (cXL x).toArray
def cXU (x:XU):List Value:=cXV x.iv++cXL x.f
def vXU (x:XU):Value:=.agg (cXU x).toArray
instance celXR (x:XR):Cel (vXR x) (cXR x):=⟨rfl⟩
instance celXV (x:XV):Cel (vXV x) (cXV x):=⟨rfl⟩
instance celXL (x:XL):Cel (vXL x) (cXL x):=⟨rfl⟩
instance celXU (x:XU):Cel (vXU x) (cXU x):=⟨rfl⟩
instance dcXR (x:XR):Dc (cXR x) (vXR x):=⟨rfl⟩
instance dcXV (x:XV):Dc (cXV x) (vXV x):=⟨rfl⟩
instance dcXL (x:XL):Dc (cXL x) (vXL x):=⟨rfl⟩
instance dcXU (x:XU):Dc (cXU x) (vXU x):=⟨rfl⟩
instance inhXU:Inhabited XU:=⟨⟨⟨⟨xq0,xq0,false⟩,⟨xq0,xq0,false⟩,false,false⟩,⟨xq0,xq0,xq0,xq0⟩⟩⟩
theorem one_b (b:Bool):∀ c∈[Value.bool b],c.oneCell'=true:=fun c h=>by rw [List.mem_singleton.1 h]; rfl
theorem one_bb (a b:Bool):∀ c∈[Value.bool a,.bool b],c.oneCell'=true:=fun c h=>by
 rcases List.mem_cons.1 h with rfl | h
 · rfl
 · rw [List.mem_singleton.1 h]; rfl
theorem oneXR (x:XR):∀ c∈cXR x,c.oneCell'=true:=dS (p9 _) (dS (p9 _) (one_b _))
theorem oneXV (x:XV):∀ c∈cXV x,c.oneCell'=true:=dS (oneXR _) (dS (oneXR _) (one_bb _ _))
theorem oneXL (x:XL):∀ c∈cXL x,c.oneCell'=true:=dS (p9 _) (dS (p9 _) (dS (p9 _) (p9 _)))
instance codXU:Cod XU:=⟨cXU,36,fun _=>rfl,fun x=>dS (oneXV _) (oneXL _),by decide⟩
def x8 (u:XU):List XQ:=[u.iv.lo.p,u.iv.lo.r,u.iv.hi.p,u.iv.hi.r,u.f.x0,u.f.x1,u.f.y0,u.f.y1]
theorem sh71X:Sh Tryz.prog 46 XR vXR:=⟨trivial⟩
theorem sh86X:Sh Tryz.prog 74 XV vXV:=⟨trivial⟩
end Go.Sx
namespace Go.Sx
open Go Go.RowKit Go.Proofs
set_option maxRecDepth 100000
set_option maxHeartbeats 40000000
attribute [local irreducible] Code.wp wpList Rd Step ObS Ent
attribute [local irreducible] ao aL ah au ax bN an aP
attribute [local irreducible] aH aI am aq aE ak aS dA ij bI aw dP
section
attribute [local instance 2000] xY xZ sh71X sh86X
def x4 (f:XL):List XQ:=[f.x0,f.x1,f.y0,f.y1]
end
end Go.Sx
namespace Go.Sx
open Go Go.RowKit Go.Proofs
set_option maxRecDepth 100000
set_option maxHeartbeats 40000000
attribute [local irreducible] Code.wp wpList Rd Step ObS Ent
attribute [local irreducible] ao aL ah au ax bN an aP
attribute [local irreducible] aH aI am aq aE ak aS dA ij bI aw bq bH
instance un38:Un Tryz.prog 234 (.slice 29):=⟨Tryz.runUnderlying234⟩
def x3 (s:XS):List XQ:=[s.t,s.x,s.y]
section
attribute [local instance 2000] xY xZ
end
end Go.Sx
namespace Go.Sx
open Go Go.RowKit Go.Proofs
set_option maxRecDepth 100000
set_option maxHeartbeats 4000000
attribute [local irreducible] Code.wp wpList Rd Step ObS Ent
theorem SqrtG_ct (a:GI) (za:SzI 30 a) (w0:World) :Calls Tryz.prog 222 #[(vI a)] w0 (dE w0 (.tuple #[(vI ((aA a).1)),(.int .i64 ((aA a).2))]) (SzI 29 ((aA a).1))):=by
 refine enter (N:=11) (args:=[(vI a)]) Tryz.func222 rfl rfl ?_; intro ac h
 refine gz h <| (xb) fun b1=>(xa) fun b2=>(ai) ?_ ?_ <;> clear h ac <;> intro ac wo h hc1
 ·
  have hd:aA a=((⟨false,0⟩:GI),2):=by unfold aA; rw [hc1]; rfl
  rw [hd]
  refine gz h <| (xo (hs:=by exact bK pM exs rfl (v:=(vI (⟨false,0⟩:GI))) rfl)) <| (W) ?_; clear h ac wo; intro ac wo h
  exact qp 0 h (h.retP (u:=.tuple #[vI (⟨false,0⟩:GI),.int .i64 2]) rfl (cX 0 (by decide) og))
 ·
  have c1:=yv a.mag za
  have s1:=Calls.pr (c1 w0)
  have c2:=bU false (bC a.mag) 29 og s1
  have s2:=ap (c2 w0)
  have hd:aA a=((aB false (bC a.mag)),0):=by unfold aA; rw [hc1]; rfl
  rw [hd]
  refine gz h <| (xk (c1)) <| (xk (c2)) <| (W) ?_; clear h ac wo; intro ac wo h
  exact qp 0 h (h.retP (u:=.tuple #[vI (aB false (bC a.mag)),.int .i64 0]) rfl s2)
end Go.Sx
namespace Go.Sx
open Go Go.RowKit Go.Proofs
set_option maxRecDepth 100000
set_option maxHeartbeats 4000000
attribute [local irreducible] Code.wp wpList Rd Step ObS Ent
attribute [local irreducible] ae aJ aD aw
theorem lq (x:GR) (zx:SzR 36 x) (w0:World):Calls Tryz.prog 120 #[vR x] w0 (dE w0 (vI (bc x)) (SzI 25 (bc x))):=by
 refine enter (N:=59) (args:=[vR x]) Tryz.func120 rfl rfl ?_; intro ac h
 have cn:=il x.p zx.1
 have cd:=bE x.p 36 og zx.1
 have ca:=il x.r zx.2
 have cb:=bE x.r 36 og zx.2
 obtain ⟨n,hn⟩:∃ n,aj x.p=n:=⟨_,rfl⟩
 obtain ⟨d,hd⟩:∃ n,aa x.p=n:=⟨_,rfl⟩
 obtain ⟨a,ha⟩:∃ n,aj x.r=n:=⟨_,rfl⟩
 obtain ⟨b,hb⟩:∃ n,aa x.r=n:=⟨_,rfl⟩
 rw [hn] at cn; rw [hd] at cd; rw [ha] at ca; rw [hb] at cb
 have c1:=bD d d 35 og (ap (cd w0)) (ap (cd w0))
 have c2:=bD a b 35 og (ap (ca w0)) (ap (cb w0))
 obtain ⟨dd,hdd⟩:∃ n,ae d d=n:=⟨_,rfl⟩
 obtain ⟨ab,hab⟩:∃ n,ae a b=n:=⟨_,rfl⟩
 rw [hdd] at c1; rw [hab] at c2
 have c3:=bD dd ab 34 og (ap (c1 w0)) (ap (c2 w0))
 obtain ⟨q,hq⟩:∃ n,ae dd ab=n:=⟨_,rfl⟩
 rw [hq] at c3
 have c4:=SqrtG_ct q (fA (ap (c3 w0)) og)
 obtain ⟨r,hr⟩:∃ n,(aA q).1=n:=⟨_,rfl⟩
 obtain ⟨e,he⟩:∃ n,(aA q).2=n:=⟨_,rfl⟩
 rw [hr,he] at c4
 have c5:=bD n b 35 og (ap (cn w0)) (ap (cb w0))
 have c6:=bD d b 35 og (ap (cd w0)) (ap (cb w0))
 obtain ⟨nb,hnb⟩:∃ k,ae n b=k:=⟨_,rfl⟩
 obtain ⟨db,hdb⟩:∃ k,ae d b=k:=⟨_,rfl⟩
 rw [hnb] at c5; rw [hdb] at c6
 have c7:=eG 1 29 og og
 have c8:=eV r (aw 1) 28 og (ap (c4 w0)) (ap (c7 w0))
 have c9:=jR nb (aJ r (aw 1)) (fA (ap (c5 w0)) og) (ap (c8 w0))
 have c10:=eV nb r 28 og (fA (ap (c5 w0)) og) (ap (c4 w0))
 have hF:∀ t:GI,t=(bif x.neg then bG nb (aJ r (aw 1)) else aJ nb r)→bc x=(aD t db).1:=fun t ht=>by
  rw [ht]; unfold bc
  rw [hn,hd,ha,hb,hdd,hab,hq,hr,hnb,hdb]
  cases x.neg <;> rfl
 refine gz h <| (xb) fun b1=>(xa) fun b2=>(W) ?_; clear h ac; intro ac wo h
 replace h:=h.emps 2
 refine eZ mixed [dv (ptr b1 0),dw (vQ x.p) [1],dv (vI n),dv (ptr b1 0),dw (vQ x.p) [1],dv (vI d),⟨.nd (.one 6 fun v=>∃ b,v=ptr b 0),[2]⟩,⟨.nd (.one 7 fun v=>∃ b,v=ptr b 0),[3]⟩,dw undef [2],dw undef [3]]
  [⟨_,[]⟩,⟨_,[]⟩,⟨.emp,[(6,.one 6 fun v=>.blk (bu v) (cI z0) 27),(8,.one 6 fun v=>.blk (bu v) (cI n) 27)]⟩,⟨.emp,[(7,.one 7 fun v=>.blk (bu v) (cI z0) 27),(9,.one 7 fun v=>.blk (bu v) (cI d) 27)]⟩] h rfl (by kernel_rfl)
  ⟨oA obA,oA obA,oA fun _=>fD (dZ Tryz.call220 rfl cn),oA obA,oA obA,oA fun _=>fD (dZ Tryz.call221 rfl cd),fun _ _=>i0 2 rfl (fun _=>rfl),fun _ _=>i0 3 rfl (fun _=>rfl),fun ξ hφ=>iZ (u:=vI n) 2 (hφ 6 rfl) rfl rfl rfl rfl rfl rfl rfl,fun ξ hφ=>iZ (u:=vI d) 3 (hφ 7 rfl) rfl rfl rfl rfl rfl rfl rfl,trivial⟩ ?_
 clear h ac wo; intro ξ ac wo hφ h
 obtain ⟨b3,hb3⟩:∃ b,ξ 6=ptr b 0:=hφ 6
 obtain ⟨b4,hb4⟩:∃ b,ξ 7=ptr b 0:=hφ 7
 replace h:St w0 59 [(1,ptr b1 0),(2,ptr b2 0),(3,ξ 6),(4,ξ 7)] [.blk b2 (cI z0) 27,.blk b1 (cR x) 46,.blk (bu (ξ 6)) (cI n) 27,.blk (bu (ξ 7)) (cI d) 27] ac wo:=h.sub ⟨rfl,rfl,rfl,rfl,trivial⟩
 rw [hb3,hb4] at h
 clear hb3 hb4 hφ ξ
 refine gz h <| (W) ?_; clear h ac wo; intro ac wo h
 replace h:St w0 59 [(1,ptr b1 0),(2,ptr b2 0),(3,ptr b3 0),(4,ptr b4 0)] [.blk b2 (cI z0) 27,.blk b1 (cR x) 46,.blk b3 (cI n) 27,.blk b4 (cI d) 27] ac wo:=h
 replace h:=h.emps 2
 refine eZ mixed [dv (ptr b1 4),dw (vQ x.r) [1],dv (vI a),dv (ptr b1 4),dw (vQ x.r) [1],dv (vI b),⟨.nd (.one 6 fun v=>∃ b,v=ptr b 0),[4]⟩,⟨.nd (.one 7 fun v=>∃ b,v=ptr b 0),[5]⟩,dw undef [4],dw undef [5]]
  [⟨_,[]⟩,⟨_,[]⟩,⟨_,[]⟩,⟨_,[]⟩,⟨.emp,[(6,.one 6 fun v=>.blk (bu v) (cI z0) 27),(8,.one 6 fun v=>.blk (bu v) (cI a) 27)]⟩,⟨.emp,[(7,.one 7 fun v=>.blk (bu v) (cI z0) 27),(9,.one 7 fun v=>.blk (bu v) (cI b) 27)]⟩] h rfl (by kernel_rfl)
  ⟨oA obA,oA obA,oA fun _=>fD (dZ Tryz.call220 rfl ca),oA obA,oA obA,oA fun _=>fD (dZ Tryz.call221 rfl cb),fun _ _=>i0 4 rfl (fun _=>rfl),fun _ _=>i0 5 rfl (fun _=>rfl),fun ξ hφ=>iZ (u:=vI a) 4 (hφ 6 rfl) rfl rfl rfl rfl rfl rfl rfl,fun ξ hφ=>iZ (u:=vI b) 5 (hφ 7 rfl) rfl rfl rfl rfl rfl rfl rfl,trivial⟩ ?_
 clear h ac wo; intro ξ ac wo hφ h
 obtain ⟨b5,hb3⟩:∃ b,ξ 6=ptr b 0:=hφ 6
 obtain ⟨b6,hb4⟩:∃ b,ξ 7=ptr b 0:=hφ 7
 replace h:St w0 59 [(1,ptr b1 0),(2,ptr b2 0),(3,ptr b3 0),(4,ptr b4 0),(5,ξ 6),(6,ξ 7)] [.blk b2 (cI z0) 27,.blk b1 (cR x) 46,.blk b3 (cI n) 27,.blk b4 (cI d) 27,.blk (bu (ξ 6)) (cI a) 27,.blk (bu (ξ 7)) (cI b) 27] ac wo:=h.sub ⟨rfl,rfl,rfl,rfl,rfl,rfl,trivial⟩
 rw [hb3,hb4] at h
 clear hb3 hb4 hφ ξ
 refine gz h <| (W) ?_; clear h ac wo; intro ac wo h
 replace h:St w0 59 [(1,ptr b1 0),(2,ptr b2 0),(3,ptr b3 0),(4,ptr b4 0),(5,ptr b5 0),(6,ptr b6 0)] [.blk b2 (cI z0) 27,.blk b1 (cR x) 46,.blk b3 (cI n) 27,.blk b4 (cI d) 27,.blk b5 (cI a) 27,.blk b6 (cI b) 27] ac wo:=h
 replace h:=h.emps 1
 refine eZ mixed [dw (vI d) [3],dw (vI d) [3],dv (vI dd),dw (vI a) [4],dw (vI b) [5],dv (vI ab),dv (vI q),dv (.tuple #[vI r,.int .i64 e]),dv (.tuple #[vI r,.int .i64 e]),dv (vI r),dv (.int .i64 e),⟨.nd (.one 11 fun v=>∃ b,v=ptr b 0),[6]⟩,dw undef [6],dv (.int .i64 e)]
  [⟨_,[]⟩,⟨_,[]⟩,⟨_,[]⟩,⟨_,[]⟩,⟨_,[]⟩,⟨_,[]⟩,⟨.emp,[(11,.one 11 fun v=>.blk (bu v) (cI z0) 27),(12,.one 11 fun v=>.blk (bu v) (cI r) 27)]⟩] h rfl (by kernel_rfl)
  ⟨oA obA,oA obA,oA fun _=>fD (dZ cc223 rfl c1),oA obA,oA obA,oA fun _=>fD (dZ cc223 rfl c2),oA fun _=>fD (dZ cc223 rfl c3),oA fun _=>fD (dZ Tryz.call222 rfl c4),oA obA,oA obA,oA obA,fun _ _=>i0 6 rfl (fun _=>rfl),fun ξ hφ=>iZ (u:=vI r) 6 (hφ 11 rfl) rfl rfl rfl rfl rfl rfl rfl,oA obA,trivial⟩ ?_
 clear h ac wo; intro ξ ac wo hφ h
 obtain ⟨b7,hb3⟩:∃ b,ξ 11=ptr b 0:=hφ 11
 replace h:St w0 59 [(1,ptr b1 0),(2,ptr b2 0),(3,ptr b3 0),(4,ptr b4 0),(6,ptr b6 0),(7,ξ 11)] [.blk b2 (cI z0) 27,.blk b1 (cR x) 46,.blk b3 (cI n) 27,.blk b4 (cI d) 27,.blk b6 (cI b) 27,.blk (bu (ξ 11)) (cI r) 27] ac wo:=(h.pick [0,1,2,3,5,6] (by decide)).sub ⟨rfl,rfl,rfl,rfl,rfl,rfl,trivial⟩
 rw [hb3] at h
 clear hb3 hφ ξ
 refine gz h <| (xk c5) <| (xa) fun b8=>(ai) ?_ ?_ <;> clear h ac wo <;> intro ac wo h hc1
 ·
  obtain ⟨t,hT⟩:∃ t,bG nb (aJ r (aw 1))=t:=⟨_,rfl⟩
  rw [hT] at c9
  have zt:SzI 26 t:=ap (c9 w0)
  have ht:=hF t (by rw [hc1,← hT]; rfl)
  refine gz h <| (dr1 (H:=[⟨.blk b8 (cI nb) 27,[(5,.con (.blk b8 (cI t) 27))]⟩,⟨_,[]⟩,⟨_,[]⟩,⟨_,[]⟩,⟨_,[]⟩,⟨_,[]⟩,⟨_,[]⟩]) (hob:=(oX (h:=by exact fun _=>fD (gk (vs:=[(.int .i64 1)]) (dH Tryz.call199 rfl) (fun w_ hB_ hS_=>c7 w_)))) <| (oK c8) <| (oK c9) <| oE)) <| (W) ?_; clear h ac wo; intro ac wo h
  have c11:=eN t db 25 og zt (fA (ap (c6 w0)) og)
  obtain ⟨Q,hQ⟩:∃ k,(aD t db).1=k:=⟨_,rfl⟩
  obtain ⟨M,hM⟩:∃ k,(aD t db).2.1=k:=⟨_,rfl⟩
  obtain ⟨f,hf⟩:∃ k,(aD t db).2.2=k:=⟨_,rfl⟩
  rw [hQ,hM,hf] at c11
  rw [hQ] at ht
  rw [ht]
  replace h:=h.emps 2
  refine eZ mixed [dw (vI t) [0],dw (vI d) [4],dw (vI b) [5],dv (vI db),dv (.tuple #[vI Q,vI M,.int .i64 f]),dv (.tuple #[vI Q,vI M,.int .i64 f]),dv (vI Q),dv (vI M),dv (.int .i64 f),⟨.nd (.one 9 fun v=>∃ b,v=ptr b 0),[7]⟩,⟨.nd (.one 10 fun v=>∃ b,v=ptr b 0),[8]⟩,dw undef [7],dw undef [8],dv (.int .i64 f)]
   [⟨_,[]⟩,⟨_,[]⟩,⟨_,[]⟩,⟨_,[]⟩,⟨_,[]⟩,⟨_,[]⟩,⟨_,[]⟩,⟨.emp,[(9,.one 9 fun v=>.blk (bu v) (cI z0) 27),(11,.one 9 fun v=>.blk (bu v) (cI Q) 27)]⟩,⟨.emp,[(10,.one 10 fun v=>.blk (bu v) (cI z0) 27),(12,.one 10 fun v=>.blk (bu v) (cI M) 27)]⟩] h rfl (by kernel_rfl)
   ⟨oA obA,oA obA,oA obA,oA fun _=>fD (dZ cc223 rfl c6),oA fun _=>fD (dZ Tryz.call225 rfl c11),oA obA,oA obA,oA obA,oA obA,fun _ _=>i0 7 rfl (fun _=>rfl),fun _ _=>i0 8 rfl (fun _=>rfl),fun ξ hφ=>iZ (u:=vI Q) 7 (hφ 9 rfl) rfl rfl rfl rfl rfl rfl rfl,fun ξ hφ=>iZ (u:=vI M) 8 (hφ 10 rfl) rfl rfl rfl rfl rfl rfl rfl,oA obA,trivial⟩ ?_
  clear h ac wo; intro ξ ac wo hφ h
  obtain ⟨b9,hb3⟩:∃ b,ξ 9=ptr b 0:=hφ 9
  replace h:St w0 59 [(2,ptr b2 0),(10,ξ 9)] [.blk b2 (cI z0) 27,.blk (bu (ξ 9)) (cI Q) 27] ac wo:=(h.pick [1,7] (by decide)).sub ⟨rfl,rfl,trivial⟩
  rw [hb3] at h
  clear hb3 hφ ξ
  refine gz h <| (W) ?_; clear h ac wo; intro ac wo h
  exact rtc 0 h (h.retP (u:=vI Q) rfl (ap (c11 w0)).1)
 ·
  obtain ⟨t,hT⟩:∃ t,aJ nb r=t:=⟨_,rfl⟩
  rw [hT] at c10
  have zt:SzI 26 t:=fA (ap (c10 w0)) og
  have ht:=hF t (by rw [hc1,← hT]; rfl)
  refine gz h <| (xk c10) <| (W) ?_; clear h ac wo; intro ac wo h
  have c11:=eN t db 25 og zt (fA (ap (c6 w0)) og)
  obtain ⟨Q,hQ⟩:∃ k,(aD t db).1=k:=⟨_,rfl⟩
  obtain ⟨M,hM⟩:∃ k,(aD t db).2.1=k:=⟨_,rfl⟩
  obtain ⟨f,hf⟩:∃ k,(aD t db).2.2=k:=⟨_,rfl⟩
  rw [hQ,hM,hf] at c11
  rw [hQ] at ht
  rw [ht]
  replace h:=h.emps 2
  refine eZ mixed [dw (vI t) [0],dw (vI d) [4],dw (vI b) [5],dv (vI db),dv (.tuple #[vI Q,vI M,.int .i64 f]),dv (.tuple #[vI Q,vI M,.int .i64 f]),dv (vI Q),dv (vI M),dv (.int .i64 f),⟨.nd (.one 9 fun v=>∃ b,v=ptr b 0),[7]⟩,⟨.nd (.one 10 fun v=>∃ b,v=ptr b 0),[8]⟩,dw undef [7],dw undef [8],dv (.int .i64 f)]
   [⟨_,[]⟩,⟨_,[]⟩,⟨_,[]⟩,⟨_,[]⟩,⟨_,[]⟩,⟨_,[]⟩,⟨_,[]⟩,⟨.emp,[(9,.one 9 fun v=>.blk (bu v) (cI z0) 27),(11,.one 9 fun v=>.blk (bu v) (cI Q) 27)]⟩,⟨.emp,[(10,.one 10 fun v=>.blk (bu v) (cI z0) 27),(12,.one 10 fun v=>.blk (bu v) (cI M) 27)]⟩] h rfl (by kernel_rfl)
   ⟨oA obA,oA obA,oA obA,oA fun _=>fD (dZ cc223 rfl c6),oA fun _=>fD (dZ Tryz.call225 rfl c11),oA obA,oA obA,oA obA,oA obA,fun _ _=>i0 7 rfl (fun _=>rfl),fun _ _=>i0 8 rfl (fun _=>rfl),fun ξ hφ=>iZ (u:=vI Q) 7 (hφ 9 rfl) rfl rfl rfl rfl rfl rfl rfl,fun ξ hφ=>iZ (u:=vI M) 8 (hφ 10 rfl) rfl rfl rfl rfl rfl rfl rfl,oA obA,trivial⟩ ?_
  clear h ac wo; intro ξ ac wo hφ h
  obtain ⟨b9,hb3⟩:∃ b,ξ 9=ptr b 0:=hφ 9
  replace h:St w0 59 [(2,ptr b2 0),(10,ξ 9)] [.blk b2 (cI z0) 27,.blk (bu (ξ 9)) (cI Q) 27] ac wo:=(h.pick [1,7] (by decide)).sub ⟨rfl,rfl,trivial⟩
  rw [hb3] at h
  clear hb3 hφ ξ
  refine gz h <| (W) ?_; clear h ac wo; intro ac wo h
  exact rtc 0 h (h.retP (u:=vI Q) rfl (ap (c11 w0)).1)
theorem oH (x:GR) (zx:SzR 36 x) (w0:World):Calls Tryz.prog 121 #[vR x] w0 (dE w0 (vI (bO x)) (SzI 25 (bO x))):=by
 refine enter (N:=7) (args:=[vR x]) Tryz.func121 rfl rfl ?_; intro ac h
 have c1:=pd x 36 og zx
 have c2:=lq (cG x) (ap (c1 w0))
 have c3:=dV (bc (cG x)) 25 og (ap (c2 w0))
 refine gz h <| (xb) fun b1=>(xa) fun b2=>(xk c1) <| (xk c2) <| (xk c3) <| (W) ?_; clear h ac; intro ac wo h
 exact rtc 0 h (h.retP (u:=vI (bO x)) rfl (ap (c3 w0)))
end Go.Sx
namespace Go.Sx
theorem isq_mm (m:Nat):isq (m*m)=m:=by
 obtain ⟨h1,h2⟩:=pu (m*m)
 have a:isq (m*m)≤m:=Nat.le_of_not_lt fun h=>by
  have:=Nat.mul_self_lt_mul_self h
  omega
 have b:m≤isq (m*m):=Nat.le_of_not_lt fun h=>by
  have:=Nat.mul_le_mul (show isq (m*m)+1≤m from h) (show isq (m*m)+1≤m from h)
  omega
 omega
theorem vt {a:GI} {m:Nat} (hn:a.neg=false) (h:a.mag=m*m):(a7 a).2=true:=by
 unfold a7
 rw [hn,cond_false]
 have e:bC a.mag=m:=by unfold bC; rw [h,isq_mm]
 rw [e,show dX m m=m*m by unfold dX; rfl,h,decide_eq_true rfl]
 rfl
theorem root_yes {r:GQ} (hr:QOk r) {q:Rat} (h:q*q=aZ r):(bJ r).2=true:=by
 have hd:=hr.pos
 have hc:Nat.Coprime r.num.mag (gy r):=hr.2.2
 have hq:=q.den_pos
 have hqc:Nat.Coprime q.num.natAbs q.den:=q.reduced
 have n0:dN r.num=((r.num.mag:Nat):Int):=by
  have h0:0≤aZ r:=by rw [← h]; exact kr q
  have h3:aZ r*(gy r:Rat)=(dN r.num:Rat):=by unfold aZ; rw [Rat.div_mul_cancel (lZ hr)]
  have h4:(0:Rat)≤(dN r.num:Rat):=by
   rw [← h3]; exact gD h0 (Rat.natCast_le_natCast.2 (Nat.zero_le (gy r)))
  have h5:0≤dN r.num:=by have:((0:Int):Rat)≤(dN r.num:Rat):=h4; exact Rat.intCast_le_intCast.1 this
  have:=f4 r.num; omega
 have e:q.num.natAbs*q.num.natAbs*gy r=r.num.mag*(q.den*q.den):=by
  have e1:q=(q.num:Rat) / (q.den:Rat):=by
   have:=Rat.num_divInt_den q
   rw [Rat.divInt_eq_div] at this
   exact this.symm
  have hb:=fX hq
  have hdd:=fX hd
  have e2:(q.num:Rat)*(q.num:Rat)*(gy r:Rat)=(dN r.num:Rat)*((q.den:Rat)*(q.den:Rat)):=by
   have:aZ r=(dN r.num:Rat) / (gy r:Rat):=rfl
   rw [this] at h
   rw [e1] at h
   generalize (q.num:Rat)=x at *
   generalize (q.den:Rat)=y at *
   grind
  have e3:q.num*q.num*((gy r:Nat):Int)=dN r.num*(((q.den:Nat):Int)*((q.den:Nat):Int)):=by exact_mod_cast e2
  have e4:=congrArg Int.natAbs e3
  rw [Int.natAbs_mul,Int.natAbs_mul,Int.natAbs_mul,Int.natAbs_mul,f4] at e4
  simpa using e4
 have c2:Nat.Coprime (q.num.natAbs*q.num.natAbs) (q.den*q.den):=Nat.Coprime.mul_left (Nat.Coprime.mul_right hqc hqc) (Nat.Coprime.mul_right hqc hqc)
 have d1:gy r ∣ q.den*q.den:=Nat.Coprime.dvd_of_dvd_mul_left hc.symm (m:=r.num.mag) ⟨q.num.natAbs*q.num.natAbs,by rw [← e,Nat.mul_comm]⟩
 have d2:q.den*q.den ∣ gy r:=Nat.Coprime.dvd_of_dvd_mul_left c2.symm (m:=q.num.natAbs*q.num.natAbs) ⟨r.num.mag,by rw [e,Nat.mul_comm]⟩
 have hdd:gy r=q.den*q.den:=Nat.dvd_antisymm d1 d2
 have hnn:r.num.mag=q.num.natAbs*q.num.natAbs:=by
  rw [hdd] at e
  exact (Nat.eq_of_mul_eq_mul_right (Nat.mul_pos hq hq) e).symm
 obtain ⟨v1,v2⟩:=iu hr
 have hdm:(aa r).mag=gy r:=by
  have:=f4 (aa r); rw [v1] at this; simpa using this.symm
 have hdn:(aa r).neg=false:=by
  cases hh:(aa r).neg with
  | false=>rfl
  | true =>
   exfalso
   unfold dN at v1
   rw [hh,hdm] at v1
   have:-((gy r:Nat):Int)=((gy r:Nat):Int):=v1
   omega
 have hnf:r.num.neg=false:=by
  cases hh:r.num.neg with
  | false=>rfl
  | true =>
   have hz:r.num.mag=0:=by
    unfold dN at n0
    rw [hh] at n0
    have:-((r.num.mag:Nat):Int)=((r.num.mag:Nat):Int):=n0
    omega
   have:=hr.1 hz
   rw [hh] at this; exact this
 unfold bJ
 rw [vt hnf hnn,vt hdn (hdm.trans hdd)]
 rfl
end Go.Sx
namespace Go.Sx
theorem qS {a b:GI} (hb:0 < b.mag) (hn:b.neg=false):dN (aD a b).1*(b.mag:Int)≤dN a∧dN a < (dN (aD a b).1+1)*(b.mag:Int):=by
 obtain ⟨s,m⟩:=a
 obtain ⟨r,n⟩:=b
 simp only at hb hn
 subst hn
 unfold aD bF
 have e:=Nat.div_add_mod m n
 have hl:=Nat.mod_lt m hb
 simp only [show decide (n=0)=false from decide_eq_false (by omega),cond_false]
 cases s with
 | false =>
  simp only [Bool.false_and,cond_false]
  show dN (aB (false != false) (m / n))*(n:Int)≤(m:Int)∧(m:Int) < (dN (aB (false != false) (m / n))+1)*(n:Int)
  rw [fZ,show (false != false)=false from rfl,cond_false]
  have e2:(n:Int)*((m / n:Nat):Int)+((m % n:Nat):Int)=(m:Int):=by exact_mod_cast e
  constructor
  · rw [Int.mul_comm]; omega
  · rw [Int.add_mul,Int.mul_comm ((m / n:Nat):Int)]; omega
 | true =>
  simp only [Bool.true_and]
  by_cases hz:m % n=0
  · simp only [show decide (m % n=0)=true from decide_eq_true hz,Bool.not_true,cond_false]
    show dN (aB (true != false) (m / n))*(n:Int)≤-(m:Int)∧-(m:Int) < (dN (aB (true != false) (m / n))+1)*(n:Int)
    rw [fZ,show (true != false)=true from rfl,cond_true]
    have e2:(n:Int)*((m / n:Nat):Int)+((m % n:Nat):Int)=(m:Int):=by exact_mod_cast e
    rw [Int.add_mul,Int.neg_mul,Int.mul_comm ((m / n:Nat):Int)]
    rw [hz] at e2
    omega
  · simp only [show decide (m % n=0)=false from decide_eq_false hz,Bool.not_false,cond_true]
    show dN (aB (true != false) (cZ (m / n) 1))*(n:Int)≤-(m:Int)∧-(m:Int) < (dN (aB (true != false) (cZ (m / n) 1))+1)*(n:Int)
    rw [fZ,show (true != false)=true from rfl,cond_true,show cZ (m / n) 1=m / n+1 by unfold cZ; rfl]
    have e2:(n:Int)*((m / n:Nat):Int)+((m % n:Nat):Int)=(m:Int):=by exact_mod_cast e
    rw [Int.add_mul,Int.neg_mul,show (((m / n+1:Nat):Int))=((m / n:Nat):Int)+1 by push_cast; rfl,Int.add_mul,Int.mul_comm ((m / n:Nat):Int)]
    omega
theorem tG (a b:GI) (hb:0 < b.mag):IOk (aD a b).1:=by
 unfold aD
 rw [show decide (b.mag=0)=false from decide_eq_false (by omega),cond_false]
 cases (a.neg && (!(decide ((bF a.mag b.mag).2=0)))) <;> exact l7 _ _
theorem aak {x:GR} (hx:ROk x) {c:GQ} (hc:QOk c):ao x (an c)=kE (aZ x.p - aZ c) (fac x) (aZ x.r):=by
 obtain ⟨e1,e2,e3⟩:=vz c
 rw [nA hx.tok (n7 hc).tok,e1,e2,fB.2]
 unfold uT sgr
 rw [if_pos (.inl (by rw [show rsg (0:Rat)=0 by unfold rsg; rfl,Int.mul_zero]))]
theorem zL {x:GR} (hx:ROk x) {c:GQ} (hc:QOk c):ao (an c) x=- kE (aZ x.p - aZ c) (fac x) (aZ x.r):=by
 rw [← aak hx hc]
 exact ((jz (n7 hc) hx).uniq (((jz hx (n7 hc)).neg).congr fun k=>by grind))
theorem pY {x:Rat} (h:0 < x):rsg x=1:=by unfold rsg; rw [if_neg (by grind),if_pos h]
theorem ww {x:Rat} (h:x < 0):rsg x=-1:=by unfold rsg; rw [if_pos h]
theorem yq:rsg (0:Rat)=0:=by unfold rsg; rfl
theorem rsign_ge {a r:Rat} (hr:0≤r) (h:0≤a∨a*a≤r):0≤kE a 1 r:=by
 unfold kE
 rw [pY (show (0:Rat) < 1 by decide +kernel),Int.one_mul]
 by_cases h0:r=0
 · subst h0
   have ha:0≤a:=by
    rcases h with h | h
    · exact h
    · have:=kr a
      have:a*a=0:=by grind
      rcases Rat.mul_eq_zero.1 this with h | h <;> grind
   rw [yq]
   unfold sgr
   rw [if_pos (.inl rfl)]
   by_cases h1:a=0
   · rw [h1,yq]; decide
   · rw [pY (by grind)]; decide
 · rw [pY (show 0 < r by grind)]
   by_cases h1:0 < a
   · rw [pY h1]; unfold sgr; rw [if_pos (.inr rfl)]; decide
   · by_cases h2:a=0
     · rw [h2,yq]; unfold sgr; rw [if_neg (by decide),if_pos rfl]; decide
     · rw [ww (show a < 0 by grind)]
       unfold sgr
       rw [if_neg (by decide),if_neg (by decide)]
       have:a*a≤1*1*r:=by rcases h with h | h <;> grind
       unfold rcm
       by_cases h3:a*a < 1*1*r
       · rw [if_pos h3]; decide
       · rw [if_neg h3,if_neg (by grind)]; decide
theorem rsign_lt {a r:Rat} (hr:0≤r) (h:a < 0) (h2:r < a*a):kE a 1 r < 0:=by
 unfold kE
 rw [pY (show (0:Rat) < 1 by decide +kernel),Int.one_mul,ww h]
 by_cases h0:r=0
 · rw [h0,yq]; unfold sgr; rw [if_pos (.inl rfl)]; decide
 · rw [pY (show 0 < r by grind)]
   unfold sgr
   rw [if_neg (by decide),if_neg (by decide)]
   unfold rcm
   rw [if_neg (by grind),if_pos (by grind)]; decide
theorem yn {a r:Rat} (hr:0 < r) (h:0 < a) (h2:r < a*a):0 < kE a (-1) r:=by
 unfold kE
 rw [ww (show (-1:Rat) < 0 by decide +kernel),pY hr,pY h]
 unfold sgr
 rw [if_neg (by decide),if_neg (by decide)]
 unfold rcm
 rw [if_neg (by grind),if_pos (by grind)]; decide
theorem ym {a r:Rat} (hr:0 < r) (h:a≤0∨a*a < r):kE a (-1) r < 0:=by
 unfold kE
 rw [ww (show (-1:Rat) < 0 by decide +kernel),pY hr]
 by_cases h1:0 < a
 · rw [pY h1]
   unfold sgr
   rw [if_neg (by decide),if_neg (by decide)]
   unfold rcm
   rw [if_pos (by rcases h with h | h <;> grind)]; decide
 · by_cases h2:a=0
   · rw [h2,yq]; unfold sgr; rw [if_neg (by decide),if_pos rfl]; decide
   · rw [ww (show a < 0 by grind)]; unfold sgr; rw [if_pos (.inr rfl)]; decide
theorem aad {a b c:Rat} (hc:0 < c) (h:a≤b):a / c≤b / c:=by
 rw [Rat.div_def,Rat.div_def]
 exact Rat.mul_le_mul_of_nonneg_right h (Rat.le_of_lt (Rat.inv_pos.2 hc))
theorem aac {a b c:Rat} (hc:0 < c) (h:a < b):a / c < b / c:=by
 rw [Rat.div_def,Rat.div_def]
 exact Rat.mul_lt_mul_of_pos_right h (Rat.inv_pos.2 hc)
def flr (x:GR):Int:=dN (bc x)
theorem vB {x:GR} (hx:ROk x):IOk (bc x)∧ao (an (ah (flr x))) x≤0∧ao x (an (ah (flr x+1))) < 0:=by
 obtain ⟨hp,hr,hk⟩:=hx
 have hx':ROk x:=⟨hp,hr,hk⟩
 obtain ⟨dp,np⟩:=iu hp
 obtain ⟨dr,nr⟩:=iu hr
 have hd:=hp.pos
 have hb:=hr.pos
 have hnn:=hx'.nn
 have ha:0≤dN x.r.num:=by
  have h3:aZ x.r*(gy x.r:Rat)=(dN x.r.num:Rat):=by unfold aZ; rw [Rat.div_mul_cancel (lZ hr)]
  have h4:(0:Rat)≤(dN x.r.num:Rat):=by
   rw [← h3]; exact gD hnn (Rat.natCast_le_natCast.2 (Nat.zero_le (gy x.r)))
  have:((0:Int):Rat)≤(dN x.r.num:Rat):=h4
  exact Rat.intCast_le_intCast.1 this
 obtain ⟨S,hS⟩:∃ S:GI,ae (ae (aa x.p) (aa x.p)) (ae (aj x.r) (aa x.r))=S:=⟨_,rfl⟩
 have vS:dN S=((gy x.p:Nat):Int)*((gy x.p:Nat):Int)*(dN x.r.num*((gy x.r:Nat):Int)):=by
  rw [← hS,it,it,it,dp,dr]; unfold aj; rfl
 have oS:IOk S:=by rw [← hS]; exact qR _ _
 have S0:0≤dN S:=by
  rw [vS]
  exact Int.mul_nonneg (Int.mul_nonneg (Int.natCast_nonneg _) (Int.natCast_nonneg _)) (Int.mul_nonneg ha (Int.natCast_nonneg _))
 have nS:S.neg=false:=by
  cases hh:S.neg with
  | false=>rfl
  | true =>
   have hz:S.mag=0:=by unfold dN at S0; rw [hh] at S0; have:(0:Int)≤-(S.mag:Int):=S0; omega
   have:=oS hz; rw [hh] at this; exact this
 have mS:dN S=(S.mag:Int):=by unfold dN; rw [nS]; rfl
 obtain ⟨s,hs⟩:∃ s:Nat,isq S.mag=s:=⟨_,rfl⟩
 obtain ⟨q1,q2⟩:=pu S.mag
 rw [hs] at q1 q2
 have eq_:dN (aA S).1=(s:Int):=by
  unfold aA
  rw [nS,cond_false]
  show dN (aB false (bC S.mag))=_
  rw [fZ,cond_false]
  unfold bC
  rw [hs]
 obtain ⟨D,hD⟩:∃ D:GI,ae (aa x.p) (aa x.r)=D:=⟨_,rfl⟩
 have vD:dN D=(((gy x.p*gy x.r:Nat)):Int):=by rw [← hD,it,dp,dr]; push_cast; rfl
 have D0:0 < gy x.p*gy x.r:=Nat.mul_pos hd hb
 have oD:IOk D:=by rw [← hD]; exact qR _ _
 have nD:D.neg=false:=by
  cases hh:D.neg with
  | false=>rfl
  | true=>unfold dN at vD; rw [hh] at vD; have:-(D.mag:Int)=_:=vD; omega
 have mD:D.mag=gy x.p*gy x.r:=by unfold dN at vD; rw [nD] at vD; have:(D.mag:Int)=_:=vD; omega
 obtain ⟨m,hm⟩:∃ m:Nat,gy x.p*gy x.r=m:=⟨_,rfl⟩
 rw [hm] at mD D0
 obtain ⟨n,hn⟩:∃ n:Int,dN x.p.num*((gy x.r:Nat):Int)=n:=⟨_,rfl⟩
 have vN:dN (ae (aj x.p) (aa x.r))=n:=by rw [it,dr,← hn]; unfold aj; rfl
 have m0:=fX D0
 have hmr:(m:Rat)=((gy x.p:Nat):Rat)*((gy x.r:Nat):Rat):=by rw [← hm]; push_cast; rfl
 have eP:aZ x.p=(n:Rat) / (m:Rat):=by
  have h1:=fX hd
  have h2:=fX hb
  have:(n:Rat)=(dN x.p.num:Rat)*((gy x.r:Nat):Rat):=by rw [← hn]; push_cast; rfl
  rw [this,hmr]; unfold aZ; grind
 have eR:aZ x.r=((S.mag:Nat):Rat) / ((m:Rat)*(m:Rat)):=by
  have h1:=fX hd
  have h2:=fX hb
  have:((S.mag:Nat):Rat)=((gy x.p:Nat):Rat)*((gy x.p:Nat):Rat)*((dN x.r.num:Rat)*((gy x.r:Nat):Rat)):=by
   have h3:=mS.symm.trans vS
   exact_mod_cast h3
  rw [this,hmr]; unfold aZ; grind
 have mp:(0:Rat) < (m:Rat):=by
  have:((0:Nat):Rat) < ((m:Nat):Rat):=by exact_mod_cast D0
  exact this
 have mm:(0:Rat) < (m:Rat)*(m:Rat):=Rat.mul_pos mp mp
 have sub_eq:∀ c:Int,aZ x.p - (c:Rat)=((n - c*(m:Int):Int):Rat) / (m:Rat):=fun c=>by
  rw [eP]; push_cast; grind
 have sq_le:∀ c:Int,(n - c*(m:Int))*(n - c*(m:Int))≤(S.mag:Int)→(aZ x.p - (c:Rat))*(aZ x.p - (c:Rat))≤aZ x.r:=fun c h=>by
  rw [sub_eq,eR]
  have h2:(((n - c*(m:Int))*(n - c*(m:Int)):Int):Rat)≤((S.mag:Nat):Rat):=by
   have:(((n - c*(m:Int))*(n - c*(m:Int)):Int):Rat)≤(((S.mag:Nat):Int):Rat):=Rat.intCast_le_intCast.2 h
   exact this
  rw [show ((n - c*(m:Int):Int):Rat) / (m:Rat)*(((n - c*(m:Int):Int):Rat) / (m:Rat))=(((n - c*(m:Int))*(n - c*(m:Int)):Int):Rat) / ((m:Rat)*(m:Rat)) by push_cast; grind]
  exact aad mm h2
 have sq_lt:∀ c:Int,(S.mag:Int) < (n - c*(m:Int))*(n - c*(m:Int))→aZ x.r < (aZ x.p - (c:Rat))*(aZ x.p - (c:Rat)):=fun c h=>by
  rw [sub_eq,eR]
  have h2:((S.mag:Nat):Rat) < (((n - c*(m:Int))*(n - c*(m:Int)):Int):Rat):=by
   have:(((S.mag:Nat):Int):Rat) < (((n - c*(m:Int))*(n - c*(m:Int)):Int):Rat):=Rat.intCast_lt_intCast.2 h
   exact this
  rw [show ((n - c*(m:Int):Int):Rat) / (m:Rat)*(((n - c*(m:Int):Int):Rat) / (m:Rat))=(((n - c*(m:Int))*(n - c*(m:Int)):Int):Rat) / ((m:Rat)*(m:Rat)) by push_cast; grind]
  exact aac mm h2
 have q1':(s:Int)*(s:Int)≤(S.mag:Int):=by exact_mod_cast q1
 have q2':(S.mag:Int) < ((s:Int)+1)*((s:Int)+1):=by exact_mod_cast q2
 have fi:∀ c:Int,aZ (ah c)=(c:Rat):=fun c=>(bV c).2
 have fo:∀ c:Int,QOk (ah c):=fun c=>(bV c).1
 have pos_le:∀ c:Int,n - c*(m:Int)≥0→0≤aZ x.p - (c:Rat):=fun c h=>by
  rw [sub_eq]
  have h2:((0:Int):Rat)≤((n - c*(m:Int):Int):Rat):=Rat.intCast_le_intCast.2 h
  have:=aad mp h2
  rw [show ((0:Int):Rat) / (m:Rat)=0 by rw [show ((0:Int):Rat)=0 from rfl]; grind] at this
  exact this
 have neg_lt:∀ c:Int,n - c*(m:Int) < 0→aZ x.p - (c:Rat) < 0:=fun c h=>by
  rw [sub_eq]
  have h2:((n - c*(m:Int):Int):Rat) < ((0:Int):Rat):=Rat.intCast_lt_intCast.2 h
  have:=aac mp h2
  rw [show ((0:Int):Rat) / (m:Rat)=0 by rw [show ((0:Int):Rat)=0 from rfl]; grind] at this
  exact this
 have neg_le:∀ c:Int,n - c*(m:Int)≤0→aZ x.p - (c:Rat)≤0:=fun c h=>by
  rw [sub_eq]
  have h2:((n - c*(m:Int):Int):Rat)≤((0:Int):Rat):=Rat.intCast_le_intCast.2 h
  have:=aad mp h2
  rw [show ((0:Int):Rat) / (m:Rat)=0 by rw [show ((0:Int):Rat)=0 from rfl]; grind] at this
  exact this
 have pos_lt:∀ c:Int,0 < n - c*(m:Int)→0 < aZ x.p - (c:Rat):=fun c h=>by
  rw [sub_eq]
  have h2:((0:Int):Rat) < ((n - c*(m:Int):Int):Rat):=Rat.intCast_lt_intCast.2 h
  have:=aac mp h2
  rw [show ((0:Int):Rat) / (m:Rat)=0 by rw [show ((0:Int):Rat)=0 from rfl]; grind] at this
  exact this
 have sqm:∀ a b:Int,0≤a→a≤b→a*a≤b*b:=fun a b h0 h=>Int.mul_le_mul h h h0 (Int.le_trans h0 h)
 unfold flr
 cases hneg:x.neg with
 | false =>
  have hfac:fac x=1:=by unfold fac; rw [hneg]; rfl
  obtain ⟨f,hf⟩:∃ f:Int,dN (bc x)=f:=⟨_,rfl⟩
  obtain ⟨T,hT⟩:∃ T:GI,aJ (ae (aj x.p) (aa x.r)) (aA S).1=T:=⟨_,rfl⟩
  have vT:dN T=n+(s:Int):=by rw [← hT,r5,vN,eq_]
  have e:bc x=(aD T D).1:=by unfold bc; rw [hneg,cond_false,hS,hD,hT]
  have hv:=qS (a:=T) (b:=D) (by omega) nD
  rw [← e,vT,mD,hf] at hv
  refine ⟨by rw [e]; exact tG _ _ (by omega),?_,?_⟩
  · rw [hf,zL hx' (fo f),fi,hfac]
    have:0≤kE (aZ x.p - (f:Rat)) 1 (aZ x.r):=by
     refine rsign_ge hnn ?_
     by_cases h0:0≤n - f*(m:Int)
     · exact .inl (pos_le f h0)
     · refine .inr (sq_le f ?_)
       have h1:f*(m:Int) - n≤(s:Int):=by omega
       have h2:=sqm (f*(m:Int) - n) s (by omega) h1
       rw [show (n - f*(m:Int))*(n - f*(m:Int))=(f*(m:Int) - n)*(f*(m:Int) - n) by grind]
       omega
    omega
  · rw [hf,aak hx' (fo (f+1)),fi,hfac]
    have h1:(s:Int)+1≤(f+1)*(m:Int) - n:=by omega
    refine rsign_lt hnn (neg_lt (f+1) (by omega)) (sq_lt (f+1) ?_)
    have h2:=sqm ((s:Int)+1) ((f+1)*(m:Int) - n) (by omega) h1
    rw [show (n - (f+1)*(m:Int))*(n - (f+1)*(m:Int))=((f+1)*(m:Int) - n)*((f+1)*(m:Int) - n) by grind]
    omega
 | true =>
  have hfac:fac x=-1:=by unfold fac; rw [hneg]; rfl
  have hk2:0 < aZ x.r∧∀ q:Rat,q*q≠aZ x.r:=by
   rcases hk with h | h
   · rw [h.2] at hneg; cases hneg
   · exact h
  obtain ⟨f,hf⟩:∃ f:Int,dN (bc x)=f:=⟨_,rfl⟩
  obtain ⟨T,hT⟩:∃ T:GI,bG (ae (aj x.p) (aa x.r)) (aJ (aA S).1 (aw 1))=T:=⟨_,rfl⟩
  have vT:dN T=n - ((s:Int)+1):=by
   rw [← hT]
   unfold bG
   rw [r5,lI,vN,r5,eq_,fO]; omega
  have e:bc x=(aD T D).1:=by unfold bc; rw [hneg,cond_true,hS,hD,hT]
  have hv:=qS (a:=T) (b:=D) (by omega) nD
  rw [← e,vT,mD,hf] at hv
  refine ⟨by rw [e]; exact tG _ _ (by omega),?_,?_⟩
  · rw [hf,zL hx' (fo f),fi,hfac]
    have h1:(s:Int)+1≤n - f*(m:Int):=by omega
    have:0 < kE (aZ x.p - (f:Rat)) (-1) (aZ x.r):=by
     refine yn hk2.1 (pos_lt f (by omega)) (sq_lt f ?_)
     have h2:=sqm ((s:Int)+1) (n - f*(m:Int)) (by omega) h1
     omega
    omega
  · rw [hf,aak hx' (fo (f+1)),fi,hfac]
    refine ym hk2.1 ?_
    by_cases h0:n - (f+1)*(m:Int)≤0
    · exact .inl (neg_le (f+1) h0)
    · right
      have h1:n - (f+1)*(m:Int)≤(s:Int):=by omega
      have h2:=sqm (n - (f+1)*(m:Int)) s (by omega) h1
      have h3:=sq_le (f+1) (by omega)
      have h4:=hk2.2 (aZ x.p - ((f+1:Int):Rat))
      grind
end Go.Sx
namespace Go.Sx
def Rle (x y:GR):Prop:=ao x y≤0
theorem cmp3 {x y:GR} (hx:ROk x) (hy:ROk y):ao x y=-1∨ao x y=0∨ao x y=1:=by
 rcases (jz hx hy).cases with h | h | h
 · exact .inr (.inr h)
 · exact .inl h
 · exact .inr (.inl h)
theorem Rle.cases {x y:GR} (hx:ROk x) (hy:ROk y) (h:Rle x y):x=y∨ao x y=-1:=by
 unfold Rle at h
 rcases cmp3 hx hy with e | e | e
 · exact .inr e
 · exact .inl (mW hx hy e)
 · rw [e] at h; exact absurd h (by decide)
theorem Rle.refl {x:GR} (hx:ROk x):Rle x x:=by unfold Rle; rw [rN hx]; decide
theorem Rle.trans {x y z:GR} (hx:ROk x) (hy:ROk y) (hz:ROk z) (h:Rle x y) (k:Rle y z):Rle x z:=by
 rcases h.cases hx hy with rfl | h
 · exact k
 · rcases k.cases hy hz with rfl | k
   · unfold Rle; rw [h]; decide
   · unfold Rle; rw [tS hx hy hz h k]; decide
theorem Rle.lt {x y z:GR} (hx:ROk x) (hy:ROk y) (hz:ROk z) (h:Rle x y) (k:ao y z=-1):ao x z=-1:=by
 rcases h.cases hx hy with rfl | h
 · exact k
 · exact tS hx hy hz h k
theorem Rle.total {x y:GR} (hx:ROk x) (hy:ROk y) (h:¬ ao x y=-1):Rle y x:=by
 unfold Rle
 rw [nu hx hy]
 rcases cmp3 hx hy with e | e | e
 · exact absurd e h
 · rw [e]; decide
 · rw [e]; decide
theorem frZ (n:Int):ROk (an (ah n)):=n7 (bV n).1
theorem zN (m n:Int):ao (an (ah m)) (an (ah n))=-1↔m < n:=by
 rw [vA (bV m).1 (bV n).1,(bV m).2,(bV n).2]
 constructor
 · intro h
   have:(m:Rat) - (n:Rat) < 0:=by
    unfold rsg at h
    split at h
    · assumption
    · split at h <;> cases h
   have h2:(m:Rat) < (n:Rat):=by grind
   exact Rat.intCast_lt_intCast.1 h2
 · intro h
   have h2:(m:Rat) < (n:Rat):=Rat.intCast_lt_intCast.2 h
   exact ww (by grind)
theorem flr_lt {x:GR} (hx:ROk x):ao x (an (ah (flr x+1)))=-1:=by
 have:=(vB hx).2.2
 rcases cmp3 hx (frZ (flr x+1)) with e | e | e
 · exact e
 · rw [e] at this; exact absurd this (by decide)
 · rw [e] at this; exact absurd this (by decide)
theorem lG {x y:GR} (hx:ROk x) (hy:ROk y) (h:Rle x y):flr x≤flr y:=by
 have h1:Rle (an (ah (flr x))) x:=(vB hx).2.1
 have h2:=(Rle.trans (frZ _) hx hy h1 h).lt (frZ _) hy (frZ _) (flr_lt hy)
 have:=(zN _ _).1 h2
 omega
theorem iK {x:GR} (hx:ROk x):ROk (cG x):=by
 obtain ⟨a,b,c⟩:=hx
 unfold cG
 refine ⟨(jL a).1,b,?_⟩
 rcases c with ⟨c1,c2⟩ | c
 · left
   have:x.r=oQ:=dC b fB.1 (by rw [c1]; exact fB.2.symm)
   exact ⟨c1,by show (!decide (x.r=oQ) && !x.neg)=false; rw [decide_eq_true this]; rfl⟩
 · exact .inr c
theorem sE {x:GR} (hx:ROk x) (k:Nat):rv (cG x) k=- rv x k:=by
 obtain ⟨a,b,c⟩:=hx
 unfold cG rv
 show aZ (aE x.p)+fac ⟨aE x.p,x.r,!decide (x.r=oQ) && !x.neg⟩*rtq (aZ x.r) k=_
 rw [(jL a).2]
 rcases c with ⟨c1,c2⟩ | c
 · rw [c1,q8]; grind
 · have:x.r≠oQ:=fun e=>by rw [e] at c; have:=fB.2; rw [show (zQ:GQ)=oQ from rfl] at this; grind
   unfold fac
   show -aZ x.p+(bif (!decide (x.r=oQ) && !x.neg) then (-1:Rat) else 1)*_=_
   rw [decide_eq_false this]
   cases x.neg
   · simp only [Bool.not_false,Bool.true_and,cond_true,cond_false]; grind
   · simp only [Bool.not_true,Bool.not_false,Bool.true_and,cond_true,cond_false]; grind
theorem yX {x y:GR} (hx:ROk x) (hy:ROk y):ao (cG x) (cG y)=ao y x :=
 (jz (iK hx) (iK hy)).uniq ((jz hy hx).congr fun k=>by rw [sE hx,sE hy]; grind)
def cel (x:GR):Int:=- flr (cG x)
theorem tx (x:GR):dN (bO x)=cel x:=by unfold bO cel flr; rw [lI]
theorem oC {x y:GR} (hx:ROk x) (hy:ROk y) (h:Rle x y):cel x≤cel y:=by
 have:Rle (cG y) (cG x):=by unfold Rle; rw [yX hy hx]; exact h
 have:=lG (iK hy) (iK hx) this
 unfold cel
 omega
theorem uq {x:GR} (hx:ROk x):flr x≤cel x:=by
 unfold cel
 have h1:Rle (an (ah (flr (cG x)))) (cG x):=(vB (iK hx)).2.1
 have h2:Rle x (an (ah (- flr (cG x)))):=by
  have e:an (ah (- flr (cG x)))=cG (an (ah (flr (cG x)))):=by
   refine mW (frZ _) (iK (frZ _)) ?_
   refine (jz (frZ _) (iK (frZ _))).uniq ((Sg.const 0).congr fun k=>?_)
   rw [sE (frZ _),zK,zK,(bV _).2,(bV _).2]; push_cast; grind
  unfold Rle
  rw [e,← yX (iK (frZ _)) hx]
  have e2:cG (cG (an (ah (flr (cG x)))))=an (ah (flr (cG x))):=by
   refine mW (iK (iK (frZ _))) (frZ _) ?_
   refine (jz (iK (iK (frZ _))) (frZ _)).uniq ((Sg.const 0).congr fun k=>?_)
   rw [sE (iK (frZ _)),sE (frZ _)]; grind
  rw [e2]; exact h1
 have h3:=lG hx (frZ _) h2
 have h4:flr (an (ah (- flr (cG x))))≤- flr (cG x):=by
  have h5:Rle (an (ah (flr (an (ah (- flr (cG x))))))) (an (ah (- flr (cG x)))):=(vB (frZ _)).2.1
  refine Int.not_lt.1 fun h=>?_
  have h6:=(zN _ _).2 h
  unfold Rle at h5
  rw [nu (frZ _) (frZ _),h6] at h5
  exact absurd h5 (by decide)
 omega
theorem mC {L:List GR} (h:∀ i,ROk (gt L i)):∀ n,(∃ i,i≤n∧jC L n=gt L i)∧∀ i,i≤n→Rle (jC L n) (gt L i)
 | 0=>⟨⟨0,Nat.le_refl _,rfl⟩,fun i hi=>by rw [show i=0 by omega]; exact Rle.refl (h 0)⟩
 | n+1=>by
  obtain ⟨⟨j,hj,e⟩,k⟩:=mC h n
  have es:jC L (n+1)=(bif decide (ao (gt L (n+1)) (jC L n) < 0) then gt L (n+1) else jC L n):=by
   unfold jC; rw [List.range_succ,List.foldl_append]; rfl
  have hm:ROk (jC L n):=by rw [e]; exact h j
  rw [es]
  cases hh:decide (ao (gt L (n+1)) (jC L n) < 0) with
  | true =>
   have h1:=of_decide_eq_true hh
   have hle:Rle (gt L (n+1)) (jC L n):=Int.le_of_lt h1
   refine ⟨⟨n+1,Nat.le_refl _,rfl⟩,fun i hi=>?_⟩
   by_cases e2:i=n+1
   · rw [e2]; exact Rle.refl (h _)
   · exact Rle.trans (h _) hm (h i) hle (k i (by omega))
  | false =>
   have h1:=of_decide_eq_false hh
   refine ⟨⟨j,by omega,e⟩,fun i hi=>?_⟩
   by_cases e2:i=n+1
   · rw [e2]; exact Rle.total (h _) hm fun e3=>h1 (by rw [show ao (gt L (n+1)) (jC L n)=-1 from e3]; decide)
   · exact k i (by omega)
theorem mF {L:List GR} (h:∀ i,ROk (gt L i)):∀ n,(∃ i,i≤n∧jN L n=gt L i)∧∀ i,i≤n→Rle (gt L i) (jN L n)
 | 0=>⟨⟨0,Nat.le_refl _,rfl⟩,fun i hi=>by rw [show i=0 by omega]; exact Rle.refl (h 0)⟩
 | n+1=>by
  obtain ⟨⟨j,hj,e⟩,k⟩:=mF h n
  have hm:ROk (jN L n):=by rw [e]; exact h j
  rw [mE]
  cases hh:decide (ao (gt L (n+1)) (jN L n)>0) with
  | true =>
   have h1:=of_decide_eq_true hh
   have hle:Rle (jN L n) (gt L (n+1)):=by
    unfold Rle; rw [nu (h _) hm]; omega
   refine ⟨⟨n+1,Nat.le_refl _,rfl⟩,fun i hi=>?_⟩
   by_cases e2:i=n+1
   · rw [e2]; exact Rle.refl (h _)
   · exact Rle.trans (h i) hm (h _) (k i (by omega)) hle
  | false =>
   have h1:=of_decide_eq_false hh
   refine ⟨⟨j,by omega,e⟩,fun i hi=>?_⟩
   by_cases e2:i=n+1
   · rw [e2]; exact Int.not_lt.1 h1
   · exact k i (by omega)
end Go.Sx
namespace Go.Sx
def lo1 (L:List GR):Nat→Int
 | 0=>0
 | j+1=>if j=0∨flr (gt L j) < lo1 L j then flr (gt L j) else lo1 L j
def hi1 (L:List GR):Nat→Int
 | 0=>0
 | j+1=>if j=0∨cel (gt L j)>hi1 L j then cel (gt L j) else hi1 L j
theorem zC {L:List GR} (h:∀ i,ROk (gt L i)):∀ n,lo1 L (n+1)=flr (jC L n)
 | 0=>by unfold lo1; rw [if_pos (.inl rfl)]; rfl
 | n+1=>by
  have e:=zC h n
  have es:jC L (n+1)=(bif decide (ao (gt L (n+1)) (jC L n) < 0) then gt L (n+1) else jC L n):=by
   unfold jC; rw [List.range_succ,List.foldl_append]; rfl
  obtain ⟨⟨j,hj,ej⟩,k⟩:=mC h n
  have hm:ROk (jC L n):=by rw [ej]; exact h j
  have e2:lo1 L (n+1+1)=if n+1=0∨flr (gt L (n+1)) < lo1 L (n+1) then flr (gt L (n+1)) else lo1 L (n+1):=rfl
  rw [e2,es,e]
  cases hh:decide (ao (gt L (n+1)) (jC L n) < 0) with
  | true =>
   have h1:=lG (h (n+1)) hm (Int.le_of_lt (of_decide_eq_true hh))
   show _=flr (gt L (n+1))
   by_cases c:flr (gt L (n+1)) < flr (jC L n)
   · rw [if_pos (.inr c)]
   · rw [if_neg (by omega)]; omega
  | false =>
   have h1:=of_decide_eq_false hh
   have h2:=lG hm (h (n+1)) (Rle.total (h (n+1)) hm fun e3=>h1 (by rw [e3]; decide))
   show _=flr (jC L n)
   rw [if_neg (by omega)]
theorem zH {L:List GR} (h:∀ i,ROk (gt L i)):∀ n,hi1 L (n+1)=cel (jN L n)
 | 0=>by unfold hi1; rw [if_pos (.inl rfl)]; rfl
 | n+1=>by
  have e:=zH h n
  obtain ⟨⟨j,hj,ej⟩,k⟩:=mF h n
  have hm:ROk (jN L n):=by rw [ej]; exact h j
  have e2:hi1 L (n+1+1)=if n+1=0∨cel (gt L (n+1))>hi1 L (n+1) then cel (gt L (n+1)) else hi1 L (n+1):=rfl
  rw [e2,mE,e]
  cases hh:decide (ao (gt L (n+1)) (jN L n)>0) with
  | true =>
   have hle:Rle (jN L n) (gt L (n+1)):=by
    have:=of_decide_eq_true hh
    unfold Rle; rw [nu (h _) hm]; omega
   have h1:=oC hm (h (n+1)) hle
   show _=cel (gt L (n+1))
   by_cases c:cel (gt L (n+1))>cel (jN L n)
   · rw [if_pos (.inr c)]
   · rw [if_neg (by omega)]; omega
  | false =>
   have h1:=of_decide_eq_false hh
   have h2:=oC (h (n+1)) hm (Int.not_lt.1 h1)
   show _=cel (jN L n)
   rw [if_neg (by omega)]
def okB (x:GR):Prop:=-1099511627776≤flr x∧cel x≤1099511627776
theorem okB_all {L:List GR} (h:∀ i,ROk (gt L i)) (n:Nat):(∀ i,i≤n→okB (gt L i))↔-1099511627776≤flr (jC L n)∧cel (jN L n)≤1099511627776:=by
 obtain ⟨⟨i,hi,ei⟩,k⟩:=mC h n
 obtain ⟨⟨j,hj,ej⟩,l⟩:=mF h n
 constructor
 · intro hA
   rw [ei,ej]
   exact ⟨(hA i hi).1,(hA j hj).2⟩
 · intro ⟨a,b⟩ m hm
   have h1:=lG (by rw [ei]; exact h i) (h m) (k m hm)
   have h2:=oC (h m) (by rw [ej]; exact h j) (l m hm)
   exact ⟨by omega,by omega⟩
end Go.Sx
