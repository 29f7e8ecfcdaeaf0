/- A part of the proof of movingpointAt. -/
import Derived.Test.YtpfdaoajcnophaaGreatDoorD3
import Derived.Test.YtpfdaoajcnophaaGreatDoorC6
import Derived.Test.YtpfdaoajcnophaaGreatDoorC5
import Derived.Test.YtpfdaoajcnophaaGreatDoorC9
set_option linter.unusedVariables false
set_option linter.unusedSimpArgs false
open Go.Proofs.Tryz renaming underlying46 → nn46, isAgg74 → aa74, sizeOf74 → zz74, isAgg46 → aa46, sizeOf46 → zz46, runUnderlying56 → uu56, runUnderlying9 → uu9
namespace Go.Sx
class KeyR [K:Key]:Prop where
 r:∀ t:GR,Tm t→∃ q,Bq 200 q∧t=ah q
theorem Bq.div {m n:Nat} {a b q:GQ} (ha:Bq m a) (hb:Bq n b) (hq:QOk q) (h0:a6 b≠0) (e:a6 q=a6 a / a6 b):Bq (m+n) q:=by
 obtain ⟨oa,x,y,y0,y1,x1,f⟩:=ha
 obtain ⟨ob,z,w,w0,w1,z1,g⟩:=hb
 have hz:z≠0:=fun h=>h0 (by rw [g,h]; have:=gW w0; push_cast; grind)
 have hN:=Nat.pow_pos (n:=n) (show 0 < 2 by decide)
 have hza:0 < z.natAbs:=Int.natAbs_pos.2 hz
 refine ⟨hq,x*w*z.sign,y*z.natAbs,Nat.mul_pos y0 hza,?_,?_,?_⟩
 · rw [pw]; exact Nat.mul_lt_mul_of_lt_of_le y1 (Nat.le_of_lt z1) hN
 · rw [pw,Int.natAbs_mul,Int.natAbs_mul,Int.natAbs_sign_of_ne_zero hz,Nat.mul_one]
   exact Nat.mul_lt_mul_of_lt_of_le x1 (Nat.le_of_lt w1) hN
 · rw [e,f,g]
   have h1:=gW y0
   have h2:=gW w0
   have h3:(z:Rat)≠0:=fun h=>hz (by exact_mod_cast h)
   have h4:=gW hza
   have h5:((z.natAbs:Nat):Rat)=(z.sign:Rat)*(z:Rat):=by
    have:((z.natAbs:Nat):Int)=z.sign*z:=by
     rcases Int.lt_or_gt_of_ne hz with h | h
     · rw [Int.sign_eq_neg_one_of_neg h]; omega
     · rw [Int.sign_eq_one_of_pos h]; omega
    have h6:(((z.natAbs:Nat):Int):Rat)=((z.sign*z:Int):Rat):=by rw [this]
    push_cast at h6 ⊢
    exact h6
   have h7:(z.sign:Rat)*(z.sign:Rat)=1:=by
    rcases Int.lt_or_gt_of_ne hz with h | h
    · rw [Int.sign_eq_neg_one_of_neg h]; decide +kernel
    · rw [Int.sign_eq_one_of_pos h]; decide +kernel
   push_cast
   rw [h5] at h4 ⊢
   grind
def SOk (a:Smp):Prop:=Bq 64 a.t∧Bq 64 a.p.x∧Bq 64 a.p.y
theorem SOk.q {a:Smp} (h:SOk a):QOk a.t∧QOk a.p.x∧QOk a.p.y:=⟨h.1.1,h.2.1.1,h.2.2.1⟩
theorem thr_sl {v w t u s c:GQ} (hv:Bq 64 v) (hw:Bq 64 w) (ht:Bq 64 t) (hu:Bq 64 u) (hs:QOk s) (hc:QOk c) (h:a6 t≠a6 u)
 (e:a6 s=(a6 w - a6 v) / (a6 u - a6 t)) (f:a6 c=a6 v - (a6 w - a6 v) / (a6 u - a6 t)*a6 t):Bq 258 s∧Bq 390 c:=by
 have h1:Bq 258 s:=Bq.div (hw.sub hv) (hu.sub ht) hs (by rw [(gD hu.1 ht.1).2]; grind) (by rw [e,(gD hw.1 hv.1).2,(gD hu.1 ht.1).2])
 refine ⟨h1,?_⟩
 have k:=(hv.sub (h1.mul ht)).le (show 64+(258+64)+1≤390 by decide)
 have:c=aj v (am s t):=eC hc k.1 (by rw [f,(gD hv.1 (fE hs ht.1).1).2,(fE hs ht.1).2,e])
 rw [this]; exact k
theorem thr_bl {a b:Smp} (ha:SOk a) (hb:SOk b) (h:a6 a.t≠a6 b.t):BL 390 (dF a b):=by
 obtain ⟨⟨o1,o2,o3,o4⟩,e1,e2,e3,e4⟩:=mn ha.q hb.q h
 obtain ⟨s1,c1⟩:=thr_sl ha.2.1 hb.2.1 ha.1 hb.1 o2 o1 h e1 e2
 obtain ⟨s2,c2⟩:=thr_sl ha.2.2 hb.2.2 ha.1 hb.1 o4 o3 h e3 e4
 exact ⟨c1,s1.le (by decide),c2,s2.le (by decide)⟩
abbrev DSm (f:Ln):Prop:=DL 390 1000 f
theorem le_pwm {n m k:Nat} (h:n < 2 ^ m) (hk:m≤8*k):(le n).length≤k:=by
 refine (cP k n).2 (Nat.lt_of_lt_of_le h ?_)
 rw [show (256:Nat)=2 ^ 8 from rfl,← Nat.pow_mul]
 exact Nat.pow_le_pow_right (by decide) hk
theorem Bq.szk {m:Nat} {q:GQ} (h:Bq m q) (k:Nat) (hk:m≤8*k) {j:Nat} (hj:k*2 ^ j≤70368744177664):SzQ j q :=
 ⟨Nat.le_trans (Nat.mul_le_mul_right _ (le_pwm h.mag.1 hk)) hj,Nat.le_trans (Nat.mul_le_mul_right _ (le_pwm h.mag.2 hk)) hj⟩
theorem DSm.sz {f:Ln} (h:DSm f):SzN 30 f:=by
 obtain ⟨a,b,c,d⟩:=h.bl (by decide)
 exact ⟨a.szk 125 (by decide) (by decide),b.szk 125 (by decide) (by decide),c.szk 125 (by decide) (by decide),d.szk 125 (by decide) (by decide)⟩
def tdv (a b:Smp) (r:GQ):GQ:=az a.t (am r (aj b.t a.t))
theorem vG {a b:Smp} {r:GQ} (ha:QOk a.t) (hb:QOk b.t) (hr:QOk r):a6 (tdv a b r)=a6 a.t+a6 r*(a6 b.t - a6 a.t):=by
 unfold tdv
 rw [(gL ha (fE hr (gD hb ha).1).1).2,(fE hr (gD hb ha).1).2,(gD hb ha).2]
theorem nK {a b:Pnt} {r:GQ} (ha:QOk a.x∧QOk a.y) (hb:QOk b.x∧QOk b.y) (hr:QOk r) :
 (QOk (iI a b r).x∧QOk (iI a b r).y)∧a6 (iI a b r).x=a6 a.x+(a6 b.x - a6 a.x)*a6 r∧a6 (iI a b r).y=a6 a.y+(a6 b.y - a6 a.y)*a6 r:=by
 unfold iI plAdd wO plSub
 dsimp only
 obtain ⟨x1,x2⟩:=gD hb.1 ha.1
 obtain ⟨x3,x4⟩:=fE x1 hr
 obtain ⟨x5,x6⟩:=gL ha.1 x3
 obtain ⟨y1,y2⟩:=gD hb.2 ha.2
 obtain ⟨y3,y4⟩:=fE y1 hr
 obtain ⟨y5,y6⟩:=gL ha.2 y3
 exact ⟨⟨x5,y5⟩,by rw [x6,x4,x2],by rw [y6,y4,y2]⟩
theorem thr_lv {a b:Smp} (ha:SOk a) (hb:SOk b) (h:a6 a.t≠a6 b.t) (q:GQ) :
 lvN (ah q) (dF a b)=((a6 a.p.x+(a6 q - a6 a.t)*((a6 b.p.x - a6 a.p.x) / (a6 b.t - a6 a.t)),0),(a6 a.p.y+(a6 q - a6 a.t)*((a6 b.p.y - a6 a.p.y) / (a6 b.t - a6 a.t)),0)):=by
 obtain ⟨o,e1,e2,e3,e4⟩:=mn ha.q hb.q h
 obtain ⟨x,xa,xb,xc⟩:=o.X
 obtain ⟨y,ya,yb,yc⟩:=o.Y
 unfold lvN lv
 rw [if_pos (vj q).2.1,if_pos (vj q).2.1,(vj q).1,xa,xb,xc,ya,yb,yc,e1,e2,e3,e4,iU.2]
 exact Prod.ext (Prod.ext (by dsimp only; grind) rfl) (Prod.ext (by dsimp only; grind) rfl)
section
variable [K:Key] [KR:KeyR]
theorem dkS:Dk DSm where
 ru:=tZ (m:=390) (M:=1000) (n:=200) (fun t ht=>by obtain ⟨q,k,rfl⟩:=KR.r t ht; rw [(vj q).1]; exact k) (by decide) (by decide)
 ok:=fun f h=>h.ok
structure Ups (l:List Smp):Prop where
 ok:∀ i,i < l.length→SOk (gt l i)
 tm:∀ i,i < l.length→Tm (ah (gt l i).t)
 up:∀ i,i+1 < l.length→a6 (gt l i).t < a6 (gt l (i+1)).t
variable {l:List Smp}
omit KR in
theorem Ups.lt (h:Ups l):∀ {i j:Nat},i < j→j < l.length→a6 (gt l i).t < a6 (gt l j).t
 | i,j+1,hij,hj=>by
  have h1:=h.up j hj
  by_cases e:i=j
  · rw [e]; exact h1
  · have:=Ups.lt h (show i < j by omega) (by omega)
    grind
omit K KR in
theorem rsg_neg {r:Rat} (h:r < 0):rsg r=-1:=by unfold rsg; rw [if_pos h]
omit KR in
theorem tk_q {p q:GQ} (hp:QOk p) (hq:QOk q) (tp:Tm (ah p)) (tq:Tm (ah q)) (h:a6 p < a6 q):tk (ah p) < tk (ah q) :=
 nC tp tq (by rw [xz hp hq,rsg_neg (by grind)])
omit KR in
theorem tk_q' {p q:GQ} (hp:QOk p) (hq:QOk q) (tp:Tm (ah p)) (tq:Tm (ah q)) (h:tk (ah p) < tk (ah q)):a6 p < a6 q:=by
 refine Classical.byContradiction fun e=>?_
 by_cases e2:a6 p=a6 q
 · rw [eC hp hq e2] at h; omega
 · have:=tk_q hq hp tq tp (by grind); omega
omit KR in
theorem Ups.tk (h:Ups l) {i j:Nat} (hij:i < j) (hj:j < l.length):Go.Sx.tk (ah (gt l i).t) < Go.Sx.tk (ah (gt l j).t) :=
 tk_q (h.ok i (by omega)).1.1 (h.ok j hj).1.1 (h.tm i (by omega)) (h.tm j hj) (h.lt hij hj)
omit KR in
theorem Ups.tkle (h:Ups l) {i j:Nat} (hij:i≤j) (hj:j < l.length):Go.Sx.tk (ah (gt l i).t)≤Go.Sx.tk (ah (gt l j).t):=by
 by_cases e:i=j
 · rw [e]; exact Nat.le_refl _
 · exact Nat.le_of_lt (h.tk (by omega) hj)
omit K KR in
theorem xA {n:Nat} {u:U Ln} (h:u∈frP l n):∃ i,i < n∧u=frF l i:=by
 unfold frP at h
 obtain ⟨i,hi,rfl⟩:=List.mem_map.1 h
 exact ⟨i,List.mem_range.1 hi,rfl⟩
omit KR in
theorem Ups.wv (h:Ups l) {i:Nat} (hi:i+1 < l.length):Wv (frF l i).iv∧DSm (frF l i).f:=by
 have h1:=h.tk (Nat.lt_succ_self i) hi
 refine ⟨⟨⟨h.tm i (by omega),h.tm (i+1) hi⟩,Nat.le_of_lt h1,fun e=>absurd e (Nat.ne_of_lt h1)⟩,.inl (thr_bl (h.ok i (by omega)) (h.ok (i+1) hi) (by have:=h.up i hi; grind))⟩
omit KR in
theorem Ups.dj (h:Ups l):(frP l (l.length - 1)).Pairwise fun a b=>Dj a.iv b.iv:=by
 unfold frP
 refine List.pairwise_map.2 ((List.pairwise_lt_range (n:=l.length - 1)).imp_of_mem fun {i j} hi hj hij=>.inl ?_)
 have hj:=List.mem_range.1 hj
 have h1:=h.tkle (show i+1≤j by omega) (by omega)
 unfold fl e6 frF
 simp only [cond_false,decide_eq_true (show 0 < j by omega),cond_true]
 omega
theorem Ups.normal (h:Ups l):∃ N,aW (frP l (l.length - 1))=(N,0)∧NFL DSm (frP l (l.length - 1)) N :=
 dkS.normal (fun x hx=>by obtain ⟨i,hi,rfl⟩:=xA hx; exact h.wv (i:=i) (by omega)) h.dj
theorem Ups.one (h:Ups l) (h1:l.length=1):aW [frO l]=([frO l],0):=by
 have t0:=h.tm 0 (by omega)
 have o0:=h.ok 0 (by omega)
 have hd:DSm (frO l).f:=.inl ⟨o0.2.1.le (by decide),Bq.zero (by decide),o0.2.2.le (by decide),Bq.zero (by decide)⟩
 refine dkS.self ⟨fun x hx=>?_,List.pairwise_singleton _ _,fun i hi=>?_,fun x hx _=>?_⟩ fun v hv=>?_
 · rw [List.mem_singleton.1 hx]; exact ⟨⟨t0,t0⟩,Nat.le_refl _,fun _=>⟨rfl,rfl⟩⟩
 · have:i+1 < 1:=hi; omega
 · rw [List.mem_singleton.1 hx]; exact kA hd.ok t0.ok.tok rfl rfl
 · rw [List.mem_singleton.1 hv]; exact hd
omit KR in
theorem Ups.val (h:Ups l) {i j:Nat} (hi:i+1 < l.length) (hj:j+1 < l.length) {r:GQ} (hr:QOk r) (r0:0≤a6 r) (r1:a6 r≤1) (ht:Tm (ah (tdv (gt l i) (gt l (i+1)) r)))
 (hin:inU (frF l j).iv (2*Go.Sx.tk (ah (tdv (gt l i) (gt l (i+1)) r)))) :
 lvN (ah (tdv (gt l i) (gt l (i+1)) r)) (frF l j).f=((a6 (iI (gt l i).p (gt l (i+1)).p r).x,0),(a6 (iI (gt l i).p (gt l (i+1)).p r).y,0)):=by
 have a:=h.ok i (by omega)
 have b:=h.ok (i+1) hi
 have c:=h.ok j (by omega)
 have d:=h.ok (j+1) hj
 have hu:=h.up i hi
 have hv:=h.up j hj
 have et:=vG (r:=r) a.q.1 b.q.1 hr
 have qt:QOk (tdv (gt l i) (gt l (i+1)) r):=(gL a.1.1 (fE hr (gD b.1.1 a.1.1).1).1).1
 obtain ⟨_,p1,p2⟩:=nK (r:=r) ⟨a.2.1.1,a.2.2.1⟩ ⟨b.2.1.1,b.2.2.1⟩ hr
 generalize tdv (gt l i) (gt l (i+1)) r=t at *
 have g1:a6 (gt l i).t≤a6 t:=by rw [et]; have:=Rat.mul_nonneg r0 (show 0≤a6 (gt l (i+1)).t - a6 (gt l i).t by grind); grind
 have g2:a6 t≤a6 (gt l (i+1)).t:=by
  rw [et]
  have:=Rat.mul_nonneg (show 0≤1 - a6 r by grind) (show 0≤a6 (gt l (i+1)).t - a6 (gt l i).t by grind)
  grind
 have g3:a6 (gt l j).t≤a6 t∧(0 < j→a6 (gt l j).t < a6 t):=by
  have e1:e6 (frF l j).iv≤2*Go.Sx.tk (ah t):=hin.1
  have key:¬ a6 t < a6 (gt l j).t:=fun e=>by
   have:=tk_q qt c.1.1 ht (h.tm j (by omega)) e
   have:2*Go.Sx.tk (ah (gt l j).t)≤e6 (frF l j).iv:=by unfold e6 frF; simp only; omega
   omega
  refine ⟨by grind,fun hj0=>?_⟩
  have:e6 (frF l j).iv=2*Go.Sx.tk (ah (gt l j).t)+1:=by unfold e6 frF; simp only [decide_eq_true hj0,cond_true]
  exact tk_q' c.1.1 qt (h.tm j (by omega)) ht (by omega)
 have g4:a6 t≤a6 (gt l (j+1)).t:=by
  have e1:((2*Go.Sx.tk (ah t):Nat):Int)≤fl (frF l j).iv:=hin.2
  have:fl (frF l j).iv=2*(Go.Sx.tk (ah (gt l (j+1)).t):Int):=by unfold fl frF; simp only [cond_false]; omega
  have key:¬ a6 (gt l (j+1)).t < a6 t:=fun e=>by
   have:=tk_q d.1.1 qt (h.tm (j+1) hj) ht e
   omega
  grind
 show lvN (ah t) (dF (gt l j) (gt l (j+1)))=_
 rw [thr_lv c d (by grind),p1,p2]
 by_cases e:j=i
 · subst e
   have hz:a6 (gt l (j+1)).t - a6 (gt l j).t≠0:=by grind
   have k:∀ v w:Rat,(a6 t - a6 (gt l j).t)*((w - v) / (a6 (gt l (j+1)).t - a6 (gt l j).t))=(w - v)*a6 r:=fun v w=>by rw [et]; grind
   rw [k,k]
 · have e2:j+1=i:=by
    rcases Nat.lt_trichotomy j i with h1 | h1 | h1
    · by_cases e3:j+1=i
      · exact e3
      · exfalso; have:=h.lt (show j+1 < i by omega) (by omega); grind
    · exact absurd h1 e
    · exfalso
      have h2:=g3.2 (by omega)
      by_cases e3:j=i+1
      · subst e3; grind
      · have:=h.lt (show i+1 < j by omega) (by omega); grind
   subst e2
   have e5:a6 t=a6 (gt l (j+1)).t:=by grind
   have hz:a6 (gt l (j+1)).t - a6 (gt l j).t≠0:=by grind
   have hz2:a6 (gt l (j+1+1)).t - a6 (gt l (j+1)).t≠0:=by grind
   have er:a6 r=0:=by
    have:a6 r*(a6 (gt l (j+1+1)).t - a6 (gt l (j+1)).t)=0:=by grind
    rcases Rat.mul_eq_zero.1 this with h1 | h1
    · exact h1
    · exact absurd h1 hz2
   have k:∀ v w:Rat,(a6 t - a6 (gt l j).t)*((w - v) / (a6 (gt l (j+1)).t - a6 (gt l j).t))=w - v:=fun v w=>by rw [e5]; grind
   rw [k,k,er]
   exact Prod.ext (Prod.ext (by dsimp only; grind) rfl) (Prod.ext (by dsimp only; grind) rfl)
omit KR in
theorem Ups.cov (h:Ups l) {i:Nat} (hi:i+1 < l.length) {r:GQ} (hr:QOk r) (r0:0≤a6 r) (r1:a6 r≤1) (ht:Tm (ah (tdv (gt l i) (gt l (i+1)) r))) :
 ∃ w∈frP l (l.length - 1),inU w.iv (2*Go.Sx.tk (ah (tdv (gt l i) (gt l (i+1)) r))):=by
 have a:=h.ok i (by omega)
 have b:=h.ok (i+1) hi
 have hu:=h.up i hi
 have et:=vG (r:=r) a.q.1 b.q.1 hr
 have qt:QOk (tdv (gt l i) (gt l (i+1)) r):=(gL a.1.1 (fE hr (gD b.1.1 a.1.1).1).1).1
 generalize tdv (gt l i) (gt l (i+1)) r=t at *
 have g1:a6 (gt l i).t≤a6 t:=by rw [et]; have:=Rat.mul_nonneg r0 (show 0≤a6 (gt l (i+1)).t - a6 (gt l i).t by grind); grind
 have g2:a6 t≤a6 (gt l (i+1)).t:=by
  rw [et]
  have:=Rat.mul_nonneg (show 0≤1 - a6 r by grind) (show 0≤a6 (gt l (i+1)).t - a6 (gt l i).t by grind)
  grind
 have le:∀ {p q:GQ},QOk p→QOk q→Tm (ah p)→Tm (ah q)→a6 p≤a6 q→Go.Sx.tk (ah p)≤Go.Sx.tk (ah q):=fun {p q} hp hq tp tq hle=>by
  refine Nat.le_of_not_lt fun e=>?_
  have:=tk_q' hq hp tq tp e
  grind
 have m1:=le a.1.1 qt (h.tm i (by omega)) ht g1
 have m2:=le qt b.1.1 ht (h.tm (i+1) hi) g2
 have mem:∀ j,j+1 < l.length→frF l j∈frP l (l.length - 1):=fun j hj=>by unfold frP; exact List.mem_map_of_mem (List.mem_range.2 (by omega))
 by_cases e:Go.Sx.tk (ah (gt l i).t)=Go.Sx.tk (ah t)∧0 < i
 · obtain ⟨j,rfl⟩:∃ j,i=j+1:=⟨i - 1,by omega⟩
   refine ⟨frF l j,mem j (by omega),?_,?_⟩
   · have:=h.tk (show j < j+1 by omega) (by omega)
     have h2:e6 (frF l j).iv≤2*Go.Sx.tk (ah (gt l j).t)+1:=by unfold e6 frF; cases decide (0 < j) <;> simp
     omega
   · have:fl (frF l j).iv=2*(Go.Sx.tk (ah (gt l (j+1)).t):Int):=by unfold fl frF; simp only [cond_false]; omega
     omega
 · refine ⟨frF l i,mem i hi,?_,?_⟩
   · by_cases h0:0 < i
     · have h2:e6 (frF l i).iv=2*Go.Sx.tk (ah (gt l i).t)+1:=by unfold e6 frF; simp only [decide_eq_true h0,cond_true]
       omega
     · have h2:e6 (frF l i).iv=2*Go.Sx.tk (ah (gt l i).t):=by unfold e6 frF; simp only [decide_eq_false h0,cond_false]; omega
       omega
   · have:fl (frF l i).iv=2*(Go.Sx.tk (ah (gt l (i+1)).t):Int):=by unfold fl frF; simp only [cond_false]; omega
     omega
omit KR in
theorem Ups.at (h:Ups l) {N:List (U Ln)} (hN:NFL DSm (frP l (l.length - 1)) N) {i:Nat} (hi:i+1 < l.length) {r:GQ} (hr:QOk r) (r0:0≤a6 r) (r1:a6 r≤1) (ht:Tm (ah (tdv (gt l i) (gt l (i+1)) r))) :
 nj N (tdv (gt l i) (gt l (i+1)) r)=(iI (gt l i).p (gt l (i+1)).p r,true):=by
 have a:=h.ok i (by omega)
 have b:=h.ok (i+1) hi
 have qt:QOk (tdv (gt l i) (gt l (i+1)) r):=(gL a.1.1 (fE hr (gD b.1.1 a.1.1).1).1).1
 obtain ⟨w,hw,hin⟩:=h.cov hi hr r0 r1 ht
 rcases qM hN.nf.wv hN.nf.ord ht with ⟨u,hu,hi2,e⟩ | ⟨hno,_⟩
 · obtain ⟨w2,hw2,hin2,hs⟩:=hN.sem.s1 _ ht u hu hi2
   obtain ⟨j,hj,rfl⟩:=xA hw2
   have hv:=h.val hi (show j+1 < l.length by omega) hr r0 r1 ht hin2
   have du:=hN.ok u hu
   have dw:=(h.wv (show j+1 < l.length by omega)).2
   have hl:=(gk du.ok dw.ok ht.ok.tok).1 hs
   rw [hv] at hl
   obtain ⟨⟨px,py⟩,p1,p2⟩:=nK (r:=r) (a:=(gt l i).p) (b:=(gt l (i+1)).p) ⟨a.2.1.1,a.2.2.1⟩ ⟨b.2.1.1,b.2.2.1⟩ hr
   unfold nj
   rw [e]
   generalize tdv (gt l i) (gt l (i+1)) r=t at *
   show (_,_)=_
   obtain ⟨ex,ev⟩:=qv (t:=t) du.ok.X.1 qt
   obtain ⟨ey,ew⟩:=qv (t:=t) du.ok.Y.1 qt
   have h1:a6 (aD (lX u.f) t)=a6 (iI (gt l i).p (gt l (i+1)).p r).x:=by
    have:=congrArg (fun x=>x.1.1) hl
    unfold lvN lv at this
    rw [if_pos (vj t).2.1,(vj t).1] at this
    rw [ev]; exact this
   have h2:a6 (aD (lY u.f) t)=a6 (iI (gt l i).p (gt l (i+1)).p r).y:=by
    have:=congrArg (fun x=>x.2.1) hl
    unfold lvN lv at this
    rw [if_pos (vj t).2.1,if_pos (vj t).2.1,(vj t).1] at this
    rw [ew]; exact this
   have h3:=eC ex px h1
   have h4:=eC ey py h2
   show ((⟨aD (lX u.f) t,aD (lY u.f) t⟩:Pnt),true)=_
   rw [h3,h4]
 · obtain ⟨u,hu,hi3,_⟩:=hN.sem.c1 _ ht w hw hin
   exact absurd hi3 (hno u hu)
end
end Go.Sx
namespace Go.Sx
open Go Go.RowKit Go.Proofs
structure XS where
 t:XQ
 x:XQ
 y:XQ
def cXS (s:XS):List Value:=cXQ s.t++(cXQ s.x++cXQ s.y)
def xq0:XQ:=qX oQ
instance inhXQ:Inhabited XQ:=⟨xq0⟩
instance inhXS:Inhabited XS:=⟨⟨xq0,xq0,xq0⟩⟩
theorem oC (x:XQ):∀ c∈cXQ x,c.oneCell'=true:=by
 intro c h
 unfold cXQ cXI at h
 simp at h
 rcases h with rfl | rfl | rfl | rfl <;> rfl
instance codXQ:Cod XQ:=⟨cXQ,4,fun _=>rfl,oC,by decide⟩
instance codXS:Cod XS:=⟨cXS,12,fun _=>rfl,fun s=>dJ (oC _) (dJ (oC _) (oC _)),by decide⟩
end Go.Sx
namespace Go.Sx
open Go Go.RowKit Go.Proofs Go.ChangeShapes Go.WideShapes
set_option maxRecDepth 100000
section
variable {H:Type} {enc:TypeId×Value→H} {W:World} {base:Nat} {sp:Nat→Bool} {held:Bool}
def lim (n:Nat):Bool:=decide (n≤reachBytes)
theorem xq_w {x:XQ} (h:(DataW.weights Tryz.prog 29 (dXQ (H:=H) x)).all lim=true):xsz x≤9223372036854775807:=by
 rw [w_xq] at h
 unfold lim at h
 simp only [List.all_cons,List.all_nil,Bool.and_true,Bool.and_eq_true,decide_eq_true_eq] at h
 have e1:x.n.b.size=x.n.b.data.toList.length:=rfl
 have e2:x.d.b.size=x.d.b.data.toList.length:=rfl
 unfold reachBytes at h
 unfold xsz
 omega
end
end Go.Sx
namespace Go.Sx
open Go Go.RowKit Go.Proofs
structure XR where
 p:XQ
 r:XQ
 neg:Bool
structure XV where
 lo:XR
 hi:XR
 openLo:Bool
 openHi:Bool
structure XL where
 x0:XQ
 x1:XQ
 y0:XQ
 y1:XQ
structure XU where
 iv:XV
 f:XL
def cXR (x:XR):List Value:=cXQ x.p++(cXQ x.r++[.bool x.neg])
def vXR (x:XR):Value:=.agg (cXR x).toArray
def cXV (x:XV):List Value:=cXR x.lo++(cXR x.hi++[.bool x.openLo,.bool x.openHi])
def vXV (x:XV):Value:=.agg (cXV x).toArray
def cXL (x:XL):List Value:=cXQ x.x0++(cXQ x.x1++(cXQ x.y0++cXQ x.y1))
def cXU (x:XU):List Value:=cXV x.iv++cXL x.f
instance celXR (x:XR):Cel (vXR x) (cXR x):=⟨rfl⟩
instance celXV (x:XV):Cel (vXV x) (cXV x):=⟨rfl⟩
instance dcXR (x:XR):Dc (cXR x) (vXR x):=⟨rfl⟩
instance dcXV (x:XV):Dc (cXV x) (vXV x):=⟨rfl⟩
instance inhXU:Inhabited XU:=⟨⟨⟨⟨xq0,xq0,false⟩,⟨xq0,xq0,false⟩,false,false⟩,⟨xq0,xq0,xq0,xq0⟩⟩⟩
theorem one_b (b:Bool):∀ c∈[Value.bool b],c.oneCell'=true:=fun c h=>by rw [List.mem_singleton.1 h]; rfl
theorem one_bb (a b:Bool):∀ c∈[Value.bool a,.bool b],c.oneCell'=true:=fun c h=>by
 rcases List.mem_cons.1 h with rfl | h
 · rfl
 · rw [List.mem_singleton.1 h]; rfl
theorem oneXR (x:XR):∀ c∈cXR x,c.oneCell'=true:=dJ (oC _) (dJ (oC _) (one_b _))
theorem oneXV (x:XV):∀ c∈cXV x,c.oneCell'=true:=dJ (oneXR _) (dJ (oneXR _) (one_bb _ _))
theorem oneXL (x:XL):∀ c∈cXL x,c.oneCell'=true:=dJ (oC _) (dJ (oC _) (dJ (oC _) (oC _)))
instance codXU:Cod XU:=⟨cXU,36,fun _=>rfl,fun x=>dJ (oneXV _) (oneXL _),by decide⟩
def rX (a:GR):XR:=⟨qX a.p,qX a.r,a.neg⟩
def x8 (u:XU):List XQ:=[u.iv.lo.p,u.iv.lo.r,u.iv.hi.p,u.iv.hi.r,u.f.x0,u.f.x1,u.f.y0,u.f.y1]
def GdR (x:XR):Prop:=Gd x.p∧Gd x.r
def S8R (x:XR):Prop:=xsz x.p≤8∧xsz x.r≤8
theorem gd_gq' {x:XQ} (h:Gd x):∃ a,x=qX a∧Gq a:=by
 obtain ⟨a,e,o,n,d⟩:=h
 exact ⟨a,e,o,n,d⟩
def GqR (a:GR):Prop:=Gq a.p∧Gq a.r
theorem gdr_is {x:XR} (h:GdR x):∃ a,x=rX a∧GqR a:=by
 obtain ⟨p,ep,hp⟩:=gd_gq' h.1
 obtain ⟨r,er,hr⟩:=gd_gq' h.2
 refine ⟨⟨p,r,x.neg⟩,?_,hp,hr⟩
 obtain ⟨a,b,c⟩:=x
 simp only at ep er
 rw [ep,er]; rfl
theorem gq_szk {a:GQ} (h:Gq a):SzQ 40 a:=(gq_bq h).sz (by decide)
theorem xw {a:GR} (h:GqR a):SzR 40 a:=⟨gq_szk h.1,gq_szk h.2⟩
theorem sh71X:Sh Tryz.prog 46 XR vXR:=⟨trivial⟩
theorem sh86X:Sh Tryz.prog 74 XV vXV:=⟨trivial⟩
end Go.Sx
namespace Go.Sx
open Go Go.RowKit Go.Proofs
set_option maxRecDepth 100000
set_option maxHeartbeats 40000000
attribute [local irreducible] Code.wp wpList Rd Step ObS Ent
attribute [local irreducible] ao aK ak ap ax bI ah aQ
attribute [local irreducible] aD aM am az aR aj aX dF iV bR ay en
section
attribute [local instance 2000] sh27X sh25Y sh71X sh86X
theorem rchkX_ct (x:XR) (h8:S8R x):∃ e:Int,(∀ w0,Calls Tryz.prog 22 #[vXR x] w0 (RetP w0 (.int .i64 e) True))∧(e=0→GdR x):=by
 by_cases hg:GdR x
 · obtain ⟨a,rfl,k⟩:=gdr_is hg
   exact ⟨ef a,fun w0=>lP a trivial (eS (xw k) og) w0,fun _=>hg⟩
 · refine ⟨5,fun w0=>?_,fun e=>absurd e (by decide)⟩
   obtain ⟨e1,c1,g1⟩:=r6 x.p h8.1
   obtain ⟨e2,c2,g2⟩:=r6 x.r h8.2
   refine enter (N:=31) (args:=[vXR x]) Tryz.func22 rfl rfl ?_; intro ac h
   refine gz h <| (xb) fun b1=>(xk c1) <| (xg (hs:=by exact fun hg=>eZ enA (kk c2))) <| (ai) ?_ ?_ <;> clear h ac <;> intro ac wo h hc1
   · refine gz h <| (W) ?_; clear h ac wo; intro ac wo h
     exact (rt h) (h.retP rfl trivial)
   · exfalso
     rw [Bool.or_eq_false_iff] at hc1
     have k:∀ {e:Int},(e != 0)=false→e=0:=fun {e} he=>Classical.byContradiction fun hn=>by rw [show (e != 0)=true from bne_iff_ne.2 hn] at he; exact Bool.noConfusion he
     exact hg ⟨g1 (k hc1.1),g2 (k hc1.2)⟩
def x4 (f:XL):List XQ:=[f.x0,f.x1,f.y0,f.y1]
end
end Go.Sx
namespace Go.Sx
open Go Go.RowKit Go.Proofs
set_option maxRecDepth 100000
set_option maxHeartbeats 40000000
attribute [local irreducible] Code.wp wpList Rd Step ObS Ent
attribute [local irreducible] ao aK ak ap ax bI ah aQ
attribute [local irreducible] aD aM am az aR aj aX dF iV bR ay
instance un38:Un Tryz.prog 234 (.slice 29):=⟨Tryz.runUnderlying234⟩
def x3 (s:XS):List XQ:=[s.t,s.x,s.y]
section
attribute [local instance 2000] sh27X sh25Y
end
end Go.Sx
namespace Go.Sx
open Go Go.RowKit Go.Proofs Go.ChangeShapes Go.WideShapes
set_option maxRecDepth 100000
section
variable {H:Type} {enc:TypeId×Value→H} {W:World} {base:Nat} {sp:Nat→Bool} {held:Bool}
def dXR (x:XR):DataW H:=.agg [dXQ x.p,dXQ x.r,.lit (.bool x.neg)]
theorem xr_cells {fuel:Nat} {cs:List Value} {x:DataW H×List MemPlace} (h:DataW.trod enc Tryz.prog W base sp held fuel 46 cs=some x):∃ i:XR,cs=cXR i∧x.1=dXR i:=by
 obtain ⟨xs,n,_,hx,hlen,hxl,hf⟩:=DataW.trod_struct nn46 h
 rw [show Tryz.prog.cellsOf 46=9 by kernel_rfl] at hlen
 have k27:Tryz.prog.cellsOf 29=4:=by kernel_rfl
 have k4:Tryz.prog.cellsOf 4=1:=by kernel_rfl
 have f0:DataW.trod enc Tryz.prog W base sp held n 29 ((cs.drop 0).take (Tryz.prog.cellsOf 29))=xs[0]?:=hf 0 _ rfl
 have f1:DataW.trod enc Tryz.prog W base sp held n 29 ((cs.drop 4).take (Tryz.prog.cellsOf 29))=xs[1]?:=hf 1 _ rfl
 have f2:DataW.trod enc Tryz.prog W base sp held n 4 ((cs.drop 8).take (Tryz.prog.cellsOf 4))=xs[2]?:=hf 2 _ rfl
 rw [k27] at f0 f1
 rw [k4] at f2
 obtain ⟨y0,y1,y2,rfl⟩:∃ y0 y1 y2,xs=[y0,y1,y2]:=by
  have:xs.length=3:=hxl
  match xs,this with
  | [y0,y1,y2],_=>exact ⟨_,_,_,rfl⟩
 obtain ⟨i,e0,d0⟩:=tx f0
 obtain ⟨j,e1,d1⟩:=tx f1
 obtain ⟨b,e2,d2⟩:=DataW.trod_bool Tryz.underlying4 f2
 refine ⟨⟨i,j,b⟩,?_,?_⟩
 · show cs=cXQ i++(cXQ j++[.bool b])
   rw [← e0,← e1]
   match cs,hlen,e2 with
   | [a,b',c,d,e,f,g,h,i],_,e2=>simp at e2; simp [e2]
 · rw [hx]
   show DataW.agg [y0.1,y1.1,y2.1]=DataW.agg [dXQ i,dXQ j,.lit (.bool b)]
   rw [d0,d1,d2]
theorem w_xr (x:XR):DataW.weights Tryz.prog 46 (dXR (H:=H) x)=DataW.weights Tryz.prog 29 (dXQ (H:=H) x.p)++DataW.weights Tryz.prog 29 (dXQ (H:=H) x.r):=by
 unfold dXR
 simp [DataW.weights,DataW.weightsEach,nn46]
end
end Go.Sx
namespace Go.Sx
open Go Go.RowKit Go.Proofs Go.ChangeShapes Go.WideShapes
set_option maxRecDepth 100000
section
variable {H:Type} {enc:TypeId×Value→H} {W:World} {base:Nat} {sp:Nat→Bool} {held:Bool}
theorem wR {v:Value} {d:DataW H} {p:List MemPlace} (hval:Value.okWide Tryz.prog W .any base 46 v) (h:DataW.Trod enc Tryz.prog W 0 sp held 46 v d p) (hw:(DataW.weights Tryz.prog 46 d).all lim=true) :
 ∃ x:XR,v=vXR x∧xsz x.p≤9223372036854775807∧xsz x.r≤9223372036854775807:=by
 unfold Value.okWide at hval
 rw [nn46] at hval
 obtain ⟨ar,rfl,_⟩:=hval
 obtain ⟨fuel,hf⟩:=h
 obtain ⟨x,e,hd⟩:=xr_cells hf
 have hd':d=dXR x:=hd
 rw [hd',w_xr] at hw
 simp only [List.all_append,Bool.and_eq_true] at hw
 refine ⟨x,?_,xq_w hw.1,xq_w hw.2⟩
 have ec:(Value.cells (.agg ar)).toList=ar.toList:=by simp [Value.cells]
 rw [ec] at e
 show Value.agg ar=.agg (cXR x).toArray
 rw [← e]
end
end Go.Sx
namespace Go.Sx
theorem isq_mm (m:Nat):isq (m*m)=m:=by
 obtain ⟨h1,h2⟩:=pn (m*m)
 have a:isq (m*m)≤m:=Nat.le_of_not_lt fun h=>by
  have:=Nat.mul_self_lt_mul_self h
  omega
 have b:m≤isq (m*m):=Nat.le_of_not_lt fun h=>by
  have:=Nat.mul_le_mul (show isq (m*m)+1≤m from h) (show isq (m*m)+1≤m from h)
  omega
 omega
theorem ua {a:GI} {m:Nat} (hn:a.neg=false) (h:a.mag=m*m):(bn a).2=true:=by
 unfold bn
 rw [hn,cond_false]
 have e:bH a.mag=m:=by unfold bH; rw [h,isq_mm]
 rw [e,show ed m m=m*m by unfold ed; rfl,h,decide_eq_true rfl]
 rfl
theorem root_yes {r:GQ} (hr:QOk r) {q:Rat} (h:q*q=a6 r):(ch r).2=true:=by
 have hd:=hr.pos
 have hc:Nat.Coprime r.num.mag (je r):=hr.2.2
 have hq:=q.den_pos
 have hqc:Nat.Coprime q.num.natAbs q.den:=q.reduced
 have n0:fi r.num=((r.num.mag:Nat):Int):=by
  have h0:0≤a6 r:=by rw [← h]; exact nM q
  have h3:a6 r*(je r:Rat)=(fi r.num:Rat):=by unfold a6; rw [Rat.div_mul_cancel (mw hr)]
  have h4:(0:Rat)≤(fi r.num:Rat):=by
   rw [← h3]; exact gu h0 (Rat.natCast_le_natCast.2 (Nat.zero_le (je r)))
  have h5:0≤fi r.num:=by have:((0:Int):Rat)≤(fi r.num:Rat):=h4; exact Rat.intCast_le_intCast.1 this
  have:=fP r.num; omega
 have e:q.num.natAbs*q.num.natAbs*je r=r.num.mag*(q.den*q.den):=by
  have e1:q=(q.num:Rat) / (q.den:Rat):=by
   have:=Rat.num_divInt_den q
   rw [Rat.divInt_eq_div] at this
   exact this.symm
  have hb:=gW hq
  have hdd:=gW hd
  have e2:(q.num:Rat)*(q.num:Rat)*(je r:Rat)=(fi r.num:Rat)*((q.den:Rat)*(q.den:Rat)):=by
   have:a6 r=(fi r.num:Rat) / (je r:Rat):=rfl
   rw [this] at h
   rw [e1] at h
   generalize (q.num:Rat)=x at *
   generalize (q.den:Rat)=y at *
   grind
  have e3:q.num*q.num*((je r:Nat):Int)=fi r.num*(((q.den:Nat):Int)*((q.den:Nat):Int)):=by exact_mod_cast e2
  have e4:=congrArg Int.natAbs e3
  rw [Int.natAbs_mul,Int.natAbs_mul,Int.natAbs_mul,Int.natAbs_mul,fP] at e4
  simpa using e4
 have c2:Nat.Coprime (q.num.natAbs*q.num.natAbs) (q.den*q.den):=Nat.Coprime.mul_left (Nat.Coprime.mul_right hqc hqc) (Nat.Coprime.mul_right hqc hqc)
 have d1:je r ∣ q.den*q.den:=Nat.Coprime.dvd_of_dvd_mul_left hc.symm (m:=r.num.mag) ⟨q.num.natAbs*q.num.natAbs,by rw [← e,Nat.mul_comm]⟩
 have d2:q.den*q.den ∣ je r:=Nat.Coprime.dvd_of_dvd_mul_left c2.symm (m:=q.num.natAbs*q.num.natAbs) ⟨r.num.mag,by rw [e,Nat.mul_comm]⟩
 have hdd:je r=q.den*q.den:=Nat.dvd_antisymm d1 d2
 have hnn:r.num.mag=q.num.natAbs*q.num.natAbs:=by
  rw [hdd] at e
  exact (Nat.eq_of_mul_eq_mul_right (Nat.mul_pos hq hq) e).symm
 obtain ⟨v1,v2⟩:=jv hr
 have hdm:(aa r).mag=je r:=by
  have:=fP (aa r); rw [v1] at this; simpa using this.symm
 have hdn:(aa r).neg=false:=by
  cases hh:(aa r).neg with
  | false=>rfl
  | true =>
   exfalso
   unfold fi at v1
   rw [hh,hdm] at v1
   have:-((je r:Nat):Int)=((je r:Nat):Int):=v1
   omega
 have hnf:r.num.neg=false:=by
  cases hh:r.num.neg with
  | false=>rfl
  | true =>
   have hz:r.num.mag=0:=by
    unfold fi at n0
    rw [hh] at n0
    have:-((r.num.mag:Nat):Int)=((r.num.mag:Nat):Int):=n0
    omega
   have:=hr.1 hz
   rw [hh] at this; exact this
 unfold ch
 rw [ua hnf hnn,ua hdn (hdm.trans hdd)]
 rfl
theorem sE {x:GR} (h:ef x=0):ROk x:=by
 unfold ef at h
 have h1:bQ x.p=0:=Classical.byContradiction fun hn=>by
  rw [show (bQ x.p != 0)=true from bne_iff_ne.2 hn,Bool.true_or,cond_true] at h
  exact absurd h (by decide)
 have h2:bQ x.r=0:=Classical.byContradiction fun hn=>by
  rw [show (bQ x.r != 0)=true from bne_iff_ne.2 hn,Bool.or_true,cond_true] at h
  exact absurd h (by decide)
 have op:=lq h1
 have or_:=lq h2
 rw [h1,h2,show (((0:Int) != 0) || ((0:Int) != 0))=false from rfl,cond_false,jc or_] at h
 refine ⟨op,or_,?_⟩
 have tri:a6 x.r < 0∨a6 x.r=0∨0 < a6 x.r:=by
  by_cases a:a6 x.r < 0
  · exact .inl a
  · by_cases b:a6 x.r=0
    · exact .inr (.inl b)
    · exact .inr (.inr (by grind))
 rcases tri with e | e | e
 · exfalso
   rw [show rsgn (a6 x.r)=-1 by unfold rsgn; rw [if_pos e]] at h
   have h5:(5:Int)=0:=h
   exact absurd h5 (by decide)
 · left
   rw [e,show rsgn (0:Rat)=0 by decide +kernel] at h
   refine ⟨e,?_⟩
   cases hn:x.neg with
   | false=>rfl
   | true=>rw [hn] at h; have h5:(5:Int)=0:=h; exact absurd h5 (by decide)
 · right
   refine ⟨e,fun q hq=>?_⟩
   rw [show rsgn (a6 x.r)=1 by unfold rsgn; rw [if_neg (by grind),if_pos e],root_yes or_ hq] at h
   have h5:(5:Int)=0:=h
   exact absurd h5 (by decide)
end Go.Sx
namespace Go.Sx
open Go Go.RowKit Go.Proofs
set_option maxRecDepth 100000
set_option maxHeartbeats 40000000
attribute [local irreducible] Code.wp wpList Rd Step ObS Ent
attribute [local irreducible] ao aK ak ap ax bI
def eG (i:Iv) (t_:GR):Bool :=
 ((decide ((aI (aw i) (⟨t_,false⟩:Bd))≤0)) && (decide ((aI (⟨t_,true⟩:Bd) (aB i))≤0)))
theorem kV (i:Iv) (cp:Nat) (t_:GR) (zi:SzV 30 i) (zt_:SzR 30 t_) (w0:World) (hcpp:PV w0 cp (cR t_)):Calls Tryz.prog 134 #[(vV i),(ptr cp 0)] w0 (RetP w0 (.bool (eG i t_)) (True)):=by
 refine enter (N:=18) (args:=[(vV i),(ptr cp 0)]) Tryz.func134 rfl rfl ?_; intro ac h
 refine n5 fun K1 hK1=>?_
 refine bx h (cV i) rfl rfl rfl fun b1=>g0 (aA rfl) rfl <| gn hK1 <| gq fun K2 hK2=>?_; clear h ac; intro ac wo h
 have s1:=Calls.pr ((fun w_ hB_ hS_=>eN i zi w_ ) _ h.bel h.sep)
 have s2:=Calls.pr ((fun w_ hB_ hS_=>eF (aw i) (⟨t_,false⟩:Bd) s1 zt_ w_ ) _ h.bel h.sep)
 have p3:=s2
 have s4:=Calls.pr ((fun w_ hB_ hS_=>fg i zi w_ ) _ h.bel h.sep)
 have s5:=Calls.pr ((fun w_ hB_ hS_=>eF (⟨t_,true⟩:Bd) (aB i) zt_ s4 w_ ) _ h.bel h.sep)
 have p6:=s5
 refine fq mixed [⟨.det (vV i),[0]⟩,⟨.det (vW (aw i)),[]⟩,⟨.det (vR t_),[]⟩,⟨.det (vW (⟨t_,false⟩:Bd)),[]⟩,⟨.det (.int .i64 (aI (aw i) (⟨t_,false⟩:Bd))),[]⟩,⟨.det (.bool (decide ((aI (aw i) (⟨t_,false⟩:Bd))≤0))),[]⟩,⟨.det (.bool (decide ((aI (aw i) (⟨t_,false⟩:Bd))≤0))),[]⟩,⟨.det (gv (decide ((aI (aw i) (⟨t_,false⟩:Bd))≤0)) (vR t_)),[]⟩,⟨.det (gv (decide ((aI (aw i) (⟨t_,false⟩:Bd))≤0)) (vW (⟨t_,true⟩:Bd))),[]⟩,⟨.det (gv (decide ((aI (aw i) (⟨t_,false⟩:Bd))≤0)) (vV i)),[0]⟩,⟨.det (gv (decide ((aI (aw i) (⟨t_,false⟩:Bd))≤0)) (vW (aB i))),[]⟩,⟨.det (gv (decide ((aI (aw i) (⟨t_,false⟩:Bd))≤0)) (.int .i64 (aI (⟨t_,true⟩:Bd) (aB i)))),[]⟩,⟨.det (gv (decide ((aI (aw i) (⟨t_,false⟩:Bd))≤0)) (.bool (decide ((aI (⟨t_,true⟩:Bd) (aB i))≤0)))),[]⟩,⟨.det (.bool ((decide ((aI (aw i) (⟨t_,false⟩:Bd))≤0)) && (decide ((aI (⟨t_,true⟩:Bd) (aB i))≤0)))),[]⟩,⟨.det (.bool ((decide ((aI (aw i) (⟨t_,false⟩:Bd))≤0)) && (decide ((aI (⟨t_,true⟩:Bd) (aB i))≤0)))),[]⟩] [⟨.blk b1 (cV i) 74,[]⟩] h rfl (by kernel_rfl) ⟨?_,?_,?_,?_,?_,?_,?_,?_,?_,?_,?_,?_,?_,?_,?_,trivial⟩ ?_
 · intro ξ hφ; exact il [.blk b1 (cV i) 74] rfl rfl (iT aa74 zz74 rfl rfl rfl (v:=(vV i)) rfl)
 · intro ξ hφ; exact g7 (eZ (vs:=[(vV i)]) (dl Tryz.call136 rfl) (fun w_ hB_ hS_=>eN i zi w_ ))
 · intro ξ hφ; exact aZ (r_ldP hcpp aa46 zz46 rfl rfl rfl (v:=(vR t_)) rfl)
 · intro ξ hφ; exact aZ (bF ur rfl rfl (v:=(vW (⟨t_,false⟩:Bd))) rfl)
 · intro ξ hφ; exact g7 (eZ (dl Tryz.call135 rfl) (kk (eF (aw i) (⟨t_,false⟩:Bd) s1 zt_)))
 · intro ξ hφ; exact aZ (r_leq rfl rfl)
 · intro ξ hφ; exact aZ (aq rfl)
 · intro ξ hφ; exact jx (c:=true) (b:=(decide ((aI (aw i) (⟨t_,false⟩:Bd))≤0))) (g:=(decide ((aI (aw i) (⟨t_,false⟩:Bd))≤0))) [] rfl rfl rfl rfl g_t (fun hg=>Rd.step (r_ldP hcpp aa46 zz46 rfl rfl rfl (v:=(vR t_)) rfl))
 · intro ξ hφ; exact jx (c:=true) (b:=(decide ((aI (aw i) (⟨t_,false⟩:Bd))≤0))) (g:=(decide ((aI (aw i) (⟨t_,false⟩:Bd))≤0))) [] rfl rfl rfl rfl g_t (fun hg=>Rd.step (bF ur (ij (dr rfl hg) (ij rfl rfl)) rfl (v:=(vW (⟨t_,true⟩:Bd))) rfl))
 · intro ξ hφ; exact jx (c:=true) (b:=(decide ((aI (aw i) (⟨t_,false⟩:Bd))≤0))) (g:=(decide ((aI (aw i) (⟨t_,false⟩:Bd))≤0))) [.blk b1 (cV i) 74] rfl rfl rfl rfl g_t (fun hg=>Rd.step (iT aa74 zz74 rfl rfl rfl (v:=(vV i)) rfl))
 · intro ξ hφ; exact jx (c:=true) (b:=(decide ((aI (aw i) (⟨t_,false⟩:Bd))≤0))) (g:=(decide ((aI (aw i) (⟨t_,false⟩:Bd))≤0))) [] rfl rfl rfl rfl g_t (fun hg=>eZ (dl Tryz.call137 (ij (dr rfl hg) rfl)) (kk (fg i zi)))
 · intro ξ hφ; exact jx (c:=true) (b:=(decide ((aI (aw i) (⟨t_,false⟩:Bd))≤0))) (g:=(decide ((aI (aw i) (⟨t_,false⟩:Bd))≤0))) [] rfl rfl rfl rfl g_t (fun hg=>eZ (dl Tryz.call135 (ij (dr rfl hg) (ij (dr rfl hg) rfl))) (kk (eF (⟨t_,true⟩:Bd) (aB i) zt_ s4)))
 · intro ξ hφ; exact jx (c:=true) (b:=(decide ((aI (aw i) (⟨t_,false⟩:Bd))≤0))) (g:=(decide ((aI (aw i) (⟨t_,false⟩:Bd))≤0))) [] rfl rfl rfl rfl g_t (fun hg=>Rd.step (r_leq (dr rfl hg) rfl))
 · intro ξ hφ; exact aZ (wF rfl (fun e=>(dr rfl e)))
 · intro ξ hφ; exact aZ (aA rfl)
 clear h ac wo; intro ξ ac wo hφ h
 replace h:St w0 18 [(3,(.bool ((decide ((aI (aw i) (⟨t_,false⟩:Bd))≤0)) && (decide ((aI (⟨t_,true⟩:Bd) (aB i))≤0)))))] [.blk b1 (cV i) 74] ac wo:=(h.pick [0] (by decide)).sub ⟨rfl,trivial⟩
 clear hφ ξ
 refine hK2 _ _ ?_
 refine c_ret ?_
 exact (rt h) (h.retP (by unfold eG; rfl) trivial)
attribute [irreducible] eG
def e7 (ls:List Iv) (t_:GR) (x8:Nat):Int :=
 (-1)
def bU (ls:List Iv) (t_:GR) (x8:Nat):Nx Nat Int :=
 bif (decide (((x8:Nat):Int) < ((ls.length:Nat):Int))) then
  bif (eG (gt ls x8) t_) then
   .ret ((x8:Nat):Int)
  else
   .go (x8+1)
 else
  .out x8
def cz (ls:List Iv) (t_:GR):Int :=
 fin (dE (fun s=>bU ls t_ s) ((ls.length - 0)+1) 0) (fun s=>e7 ls t_ s) (fun r=>r)
theorem f5 (ls:List Iv) (lsv:Value) (cp:Nat) (t_:GR) (hl:ls.length≤1000) (zls:All (SzV 30) ls) (zt_:SzR 30 t_) (w0:World) (hlsv:View w0 lsv ls) (hcpp:PV w0 cp (cR t_)):Calls Tryz.prog 235 #[lsv,(.func (.func 134) #[] #[(ptr cp 0)])] w0 (RetP w0 (.int .i64 (cz ls t_)) ((-1≤(cz ls t_)∧(cz ls t_)≤1000))):=by
 refine enter (N:=19) (args:=[lsv,(.func (.func 134) #[] #[(ptr cp 0)])]) Tryz.func235 rfl rfl ?_; intro ac h
 have hlenls:=hlsv.len
 refine n5 fun K1 hK1=>?_
 refine rd0 h (aA rfl) rfl <| gn hK1 <| gq fun K2 hK2=>gr fun K3 hK3=>g0 (aq rfl) rfl <| g0 (gj uu56 rfl hlsv.sl) rfl <| g0 (aq rfl) rfl <| gn hK3 <| gB ?_; clear h ac; intro ac wo h
 obtain ⟨X1,hX1⟩:∃ X,dE (fun s=>bU ls t_ s) ((ls.length - 0)+1) 0=X:=⟨_,rfl⟩
 refine wp_loop_ghost (fun n_ a_ w_=>∃ (x8:Nat),((ls.length - x8) < n_)∧(dE (fun s=>bU ls t_ s) n_ x8=X1)∧(x8≤ls.length)∧St w0 19 [(0,lsv),(1,(.func (.func 134) #[] #[(ptr cp 0)])),(7,(.int .i64 ((ls.length:Nat):Int))),(8,(.int .i64 ((x8:Nat):Int)))] [] a_ w_) ((ls.length - 0)+1) ⟨0,og,hX1,og,h.rs⟩ ?_
 clear h ac wo; rintro n1 ac wo ⟨x8,hm1,hL1,hx8,h⟩
 obtain ⟨m1,rfl⟩:∃ m,n1=m+1:=⟨n1 - 1,by omega⟩
 refine gz h <| gr fun K4 hK4=>g0 (iW rfl rfl) rfl <| gn hK4 <| gq fun K5 hK5=>?_; clear h ac wo; intro ac wo h
 refine jD h rfl (fun hc1=>?_) (fun hc1=>?_)
 ·
  have hd1:=of_decide_eq_true hc1
  refine gz h <| gS <| gx hK5 <| gq fun K6 hK6=>gB <| gr fun K7 hK7=>g0 (aq rfl) rfl <| g0 (aA rfl) rfl <| gn hK7 <| gr fun K8 hK8=>g0 (aq rfl) rfl <| g0 (aq rfl) rfl <| g0 (aq rfl) rfl <| g0 (ik (i:=x8) uu56 zz74 rfl rfl (hlsv.nn (i:=x8) og) og) rfl <| g0 (m8 (k:=0) aa74 zz74 hlsv (jX og) rfl (Nat.add_zero _) rfl rfl (v:=(vV (gt ls x8))) rfl) rfl <| gc (tc (cap:=[(ptr cp 0)]) Tryz.call134 rfl rfl) (fun w_ hB_ hS_=>kV (gt ls x8) cp t_ (All.gt zls (SzV_d _)) zt_ w_ (hcpp.below hB_)) rfl <| gn hK8 ?_; clear h ac wo; intro ac wo h
  refine jD h rfl (fun hc2=>?_) (fun hc2=>?_)
  ·
   have hq2:=hc2; try simp at hq2
   refine gz h <| gr fun K9 hK9=>g0 (aq rfl) rfl <| g0 (aA rfl) rfl <| gn hK9 <| gT ?_; clear h ac wo; intro ac wo h
   have hr1:=ns hL1 pt
   have hd:cz ls t_=((x8:Nat):Int):=pt
   exact (rt h) (h.retP (by rw [hd] <;> rfl) (by rw [hd]; exact og))
  ·
   have hq2:=hc2; try simp at hq2
   refine gz h <| gS <| gN <| gx hK6 <| gR <| g0 (eB rfl rfl (r:=((x8+1:Nat):Int)) (by rw [IntKind.wrap_i64]; omega)) rfl <| g0 (aq rfl) rfl <| gx (fun _ _=>fu) ?_; clear h ac wo; intro ac wo h
   have hg:=eO hL1 pt
   exact aL ⟨m1,og,_,og,hg,og,h.re []⟩
 ·
  have hd1:=of_decide_eq_false hc1
  refine i7 ?_
  have hx1:=f8 hL1 pt
  refine gz h <| gx hK2 <| gr fun K10 hK10=>g0 (aA rfl) rfl <| gn hK10 <| gT ?_; clear h ac wo; intro ac wo h
  have hd:cz ls t_=(-1):=pt
  exact (rt h) (h.retP (by rw [hd] <;> rfl) (by rw [hd]; exact og))
attribute [irreducible] cz
def dB (ls:List Iv) (t_:GR):Bool :=
 (decide ((cz ls t_)≥0))
theorem iz (ls:List Iv) (lsv:Value) (cp:Nat) (t_:GR) (hl:ls.length≤1000) (zls:All (SzV 30) ls) (zt_:SzR 30 t_) (w0:World) (hlsv:View w0 lsv ls) (hcpp:PV w0 cp (cR t_)):Calls Tryz.prog 133 #[lsv,(.func (.func 134) #[] #[(ptr cp 0)])] w0 (RetP w0 (.bool (dB ls t_)) (True)):=by
 refine enter (N:=9) (args:=[lsv,(.func (.func 134) #[] #[(ptr cp 0)])]) Tryz.func133 rfl rfl ?_; intro ac h
 have hlenls:=hlsv.len
 refine gz h <| (W) ?_; clear h ac; intro ac wo h
 have s1:=Calls.pr ((fun w_ hB_ hS_=>f5 ls lsv cp t_ og zls zt_ w_ (hlsv.below hB_) (hcpp.below hB_)) _ h.bel h.sep)
 have p2:=s1
 refine gz h <| (xc (ct:=by exact fun w_ hB_ hS_=>f5 ls lsv cp t_ og zls zt_ w_ (hlsv.below hB_) (hcpp.below hB_))) <| (W) ?_; clear h ac wo; intro ac wo h
 exact (rt h) (h.retP (by unfold dB; rfl) trivial)
attribute [irreducible] dB
def cj (p:List Iv) (t:GR):Bool :=
 (dB p t)
theorem jB (p:List Iv) (pv:Value) (t:GR) (hl:p.length≤1000) (zp:All (SzV 30) p) (zt:SzR 30 t) (w0:World) (hpv:View w0 pv p):Calls Tryz.prog 30 #[pv,(vR t)] w0 (RetP w0 (.bool (cj p t)) (True)):=by
 refine enter (N:=8) (args:=[pv,(vR t)]) Tryz.func30 rfl rfl ?_; intro ac h
 have hlenp:=hpv.len
 refine gz h <| (xb) fun b1=>(xo (hs:=by exact mu rfl)) <| (xc (ct:=by exact fun w_ hB_ hS_=>iz p pv b1 t og zp zt w_ (hpv.below hB_) (blk_pv hS_ 0 rfl))) <| (W) ?_; clear h ac; intro ac wo h
 exact (rt h) (h.retP (by unfold cj; rfl) trivial)
attribute [irreducible] cj
end Go.Sx
namespace Go.Sx
theorem rY [Key] {p:List Iv} (hp:∀ i∈p,Tv i) {t:GR} (ht:Tm t):cj p t=true↔inP p (2*tk t):=by
 have h1:∀ i,Tv i→(eG i t=true↔inI i (2*tk t)):=fun i hi=>by
  unfold eG inI
  rw [cmpB (a:=aw i) (b:=⟨t,false⟩) (by rw [pf]; exact hi.1) ht,cmpB (a:=⟨t,true⟩) (b:=aB i) ht (by rw [pl]; exact hi.2)]
  have k1:kB (⟨t,false⟩:Bd)=2*tk t+0:=rfl
  have k2:kB (⟨t,true⟩:Bd)=2*tk t+1:=rfl
  rw [k1,k2,Bool.and_eq_true,decide_eq_true_eq,decide_eq_true_eq]
  have key:∀ a b:Nat,sgn a b≤0↔a≤b:=fun a b=>by
   rcases Nat.lt_trichotomy a b with h | h | h
   · rw [iO h]; simp; omega
   · rw [h,fI]; simp
   · rw [jj h]; simp; omega
  rw [key,key]; omega
 unfold cj dB cz
 obtain ⟨b,b1,b2,b3,b4⟩:=scanL (B:=fun s=>bU p t s) (fun i=>i) (n:=p.length) (brk:=fun _=>false) (hit:=fun i=>eG (gt p i) t) (r:=fun i=>((i:Nat):Int)) (o:=fun i=>i)
  (fun i hi=>by
    show bU p t i=_
    unfold bU
    rw [decide_eq_true (by omega:((i:Nat):Int) < ((p.length:Nat):Int))]; rfl)
  (by
    show bU p t p.length=_
    unfold bU
    rw [decide_eq_false (by omega:¬ ((p.length:Nat):Int) < ((p.length:Nat):Int))]; rfl) (p.length - 0+1) 0 (Nat.zero_le _) (by omega)
 rcases b4 with ⟨c1,_,c3,c4⟩ | ⟨c1,c2⟩
 · rw [fin_r c4]
   refine ⟨fun _=>⟨gt p b,gtmL c1,(h1 _ (hp _ (gtmL c1))).1 c3⟩,fun _=>decide_eq_true (by omega)⟩
 · rw [rM c2]
   have hb:b=p.length:=by
    rcases c1 with c1 | ⟨_,c1⟩
    · exact c1
    · cases c1
   subst hb
   refine ⟨fun h=>?_,fun ⟨i,hi,h⟩=>?_⟩
   · have:decide ((e7 p t p.length)≥0)=true:=h
     unfold e7 at this
     cases this
   · obtain ⟨j,hj,rfl⟩:=memL hi
     have:=(b3 j (Nat.zero_le _) hj).2
     rw [(h1 _ (hp _ hi)).2 h] at this
     cases this
end Go.Sx
namespace Go.Sx
def kcT (p q:Nat) (t:GR):List GR:=kcL p q++[t,ah t.p]
structure TmI (t:GR):Prop where
 ok:ROk t
 bp:Bq 100 t.p
 br:Bq 100 t.r
theorem TmI.fr {t:GR} (h:TmI t):ROk (ah t.p):=ta h.ok.1
theorem xr {p q:Nat} {t x:GR} (h:x∈kcT p q t):x∈kcL p q∨x=t∨x=ah t.p:=by
 unfold kcT at h
 rcases List.mem_append.1 h with h | h
 · exact .inl h
 · simp at h; exact .inr h
theorem kt_ok {p q:Nat} {t:GR} (ht:TmI t) {x:GR} (h:x∈kcT p q t):ROk x:=by
 rcases xr h with h | rfl | rfl
 · exact kc_ok h
 · exact ht.ok
 · exact ht.fr
theorem kt_bq {p q:Nat} (hp:p < 256) (hq:q < 256) {t:GR} (ht:TmI t) {x:GR} (h:x∈kcT p q t):Bq 100 x.p∧Bq 100 x.r:=by
 rcases xr h with h | rfl | rfl
 · exact kc_bq hp hq h
 · exact ⟨ht.bp,ht.br⟩
 · exact ⟨ht.bp,Bq.zero (by decide)⟩
abbrev xq (p q:Nat) (t:GR) (hp:p < 256) (hq:q < 256) (ht:TmI t):Key where
 l:=kcT p q t
 ok:=fun _ h=>kt_ok ht h
 sz:=by unfold kcT kcL; simp
 z:=List.mem_append_left _ (by rw [inZ0]; exact kcL_z (by decide))
 rt:=fun x h=>trivial
 szr:=fun x h=>⟨cX ((kt_bq hp hq ht h).1.sz (by decide)) (by decide),cX ((kt_bq hp hq ht h).2.sz (by decide)) (by decide)⟩
section
variable {p q:Nat} {t:GR} {hp:p < 256} {hq:q < 256} {ht:TmI t}
theorem so {x:GR}:@Tm (xq p q t hp hq ht) x↔x∈kcT p q t:=by
 letI:=xq p q t hp hq ht
 rw [← Tm.iff,decide_eq_true_iff]; rfl
theorem ktT:@Tm (xq p q t hp hq ht) t∧@Tm (xq p q t hp hq ht) (ah t.p):=⟨so.2 (List.mem_append_right _ (by simp)),so.2 (List.mem_append_right _ (by simp))⟩
theorem ktZ:@KeyZ (xq p q t hp hq ht):=@KeyZ.mk (xq p q t hp hq ht) fun n hn=>so.2 (List.mem_append_left _ (kcL_z hn))
theorem ktB:@KeyB (xq p q t hp hq ht):=@KeyB.mk (xq p q t hp hq ht) fun t h=>(kt_bq hp hq ht (so.1 h)).1
theorem ktG:@KeyG (xq p q t hp hq ht) p q:=@KeyG.mk (xq p q t hp hq ht) p q (so.2 (List.mem_append_left _ (List.mem_append_right _ (by simp)))) (so.2 (List.mem_append_left _ (List.mem_append_right _ (by simp)))) (so.2 (List.mem_append_left _ (List.mem_append_right _ (by simp))))
end
theorem root_z:ch zQ=(zQ,true):=by decide +kernel
theorem wG {f:Qd} (hf:DOk f) (h2:f.c2=zQ) {r:GQ} (hr:QOk r):qAt f (ah r)=ah (aD f r):=by
 obtain ⟨e1,e2,e3⟩:=vj r
 obtain ⟨o,v⟩:=qv (t:=r) hf hr
 have b1:az (aD f r) (am f.c2 zQ)=aD f r:=by
  have m:=fE hf.2.2 iU.1
  refine eC (gL o m.1).1 o ?_
  rw [(gL o m.1).2,m.2,iU.2]; grind
 obtain ⟨s,hs,os⟩:∃ s,aM f r=s∧QOk s:=⟨_,rfl,by
  unfold aM
  exact (gL hf.2.1 (fE (gL hf.2.2 hf.2.2).1 hr).1).1⟩
 unfold qAt
 rw [e1,e2,e3,hs,b1,cond_false]
 unfold fm
 rw [show decide (ap zQ < 0)=false by decide +kernel,root_z]
 have b2:az (aD f r) (am s zQ)=aD f r:=by
  have m:=fE os iU.1
  refine eC (gL o m.1).1 o ?_
  rw [(gL o m.1).2,m.2,iU.2]; grind
 show (⟨az (aD f r) (am s zQ),oQ,false⟩:GR)=_
 rw [b2]
 unfold ah
 rfl
def rp0:RPt:=⟨⟨oQ,oQ,false⟩,⟨oQ,oQ,false⟩⟩
def mAtV (l:List (U Ln)) (t:GR):RPt×Bool:=bif (bJ l t).2 then (rb (bJ l t).1 t,true) else (rp0,false)
def sj (l:List (U Ln)) (t:GR):RPt×Bool:=match l.find? fun u=>cj [u.iv] t with
 | some u=>(rb u.f t,true)
 | none=>(rp0,false)
section
variable [K:Key]
theorem mY {i:Iv} (hi:Wv i) {t:GR} (ht:Tm t):cj [i] t=true↔inU i (2*tk t) :=
 (rY (fun j hj=>by rw [List.mem_singleton.1 hj]; exact hi.1) ht).trans jq
theorem tB {N:List (U Ln)} (hN:NFl N) {t:GR} (ht:Tm t):(∃ u∈N,inU u.iv (2*tk t)∧sj N t=(rb u.f t,true))∨((∀ u∈N,¬ inU u.iv (2*tk t))∧sj N t=(rp0,false)):=by
 unfold sj
 cases h:N.find? fun u=>cj [u.iv] t with
 | some u =>
  have h1:=List.mem_of_find?_eq_some h
  have h2:=List.find?_some h
  exact .inl ⟨u,h1,(mY (hN.wv u h1) ht).1 h2,rfl⟩
 | none =>
  refine .inr ⟨fun u hu hi=>?_,rfl⟩
  have:=List.find?_eq_none.1 h u hu
  exact this ((mY (hN.wv u hu) ht).2 hi)
theorem nf_uni {N:List (U Ln)} (hN:NFl N) {u v:U Ln} (hu:u∈N) (hv:v∈N) {q:Nat} (h1:inU u.iv q) (h2:inU v.iv q):u=v:=by
 have hd:=hN.dj
 rcases pw_mem (fun _ _=>Dj.symm) hd u hu v hv with e | h
 · exact e
 · exact absurd ⟨h1,h2⟩ (no_dj h q)
theorem At_eq {N:List (U Ln)} (hN:NFl N) {t:GR} (ht:Tm t):mAtV N t=sj N t:=by
 unfold mAtV
 rcases qM hN.wv hN.ord ht with ⟨u,hu,hi,e⟩ | ⟨hn,e⟩ <;> rcases tB hN ht with ⟨v,hv,hj,k⟩ | ⟨hm,k⟩
 · rw [e,k,nf_uni hN hu hv hi hj]; rfl
 · exact absurd hi (hm u hu)
 · exact absurd hj (hn v hv)
 · rw [e,k]; rfl
theorem AtRat_eq {N:List (U Ln)} (hN:NFl N) {D:Ln→Prop} (hD:Dk D) (dN:∀ u∈N,D u.f) {r:GQ} (hr:QOk r) (ht:Tm (ah r)) :
 (nj N r).2=(sj N (ah r)).2∧ah (nj N r).1.x=(sj N (ah r)).1.x∧ah (nj N r).1.y=(sj N (ah r)).1.y:=by
 rw [← At_eq hN ht]
 unfold nj mAtV
 rcases qM hN.wv hN.ord ht with ⟨u,hu,hi,e⟩ | ⟨hn,e⟩
 · rw [e]
   have o:=hD.ok _ (dN u hu)
   have hx:qAt (lxs u.f) (ah r)=ah (aD (lxs u.f) r):=wG o.X.1 o.X.2.2.2 hr
   have hy:qAt (lys u.f) (ah r)=ah (aD (lys u.f) r):=wG o.Y.1 o.Y.2.2.2 hr
   refine ⟨rfl,?_,?_⟩
   · show ah (aD (lxs u.f) r)=(rb u.f (ah r)).x
     unfold rb; exact hx.symm
   · show ah (aD (lys u.f) r)=(rb u.f (ah r)).y
     unfold rb; exact hy.symm
 · rw [e]
   refine ⟨rfl,?_,?_⟩
   · show ah oQ=_
     unfold ah; rfl
   · show ah oQ=_
     unfold ah; rfl
theorem dom_has {N:List (U Ln)} (hN:NFl N) {t:GR} (ht:Tm t):cj (mf N) t=(mAtV N t).2:=by
 obtain ⟨c,h⟩:=rP hN.wv
 have h1:=(rY (p:=mf N) (fun i hi=>(c.wv i hi).1) ht).trans (h (2*tk t))
 rw [At_eq hN ht]
 rcases tB hN ht with ⟨v,hv,hj,k⟩ | ⟨hm,k⟩
 · rw [k,h1.2 ⟨v,hv,hj⟩]
 · rw [k]
   cases hh:cj (mf N) t with
   | false=>rfl
   | true=>obtain ⟨u,hu,hi⟩:=h1.1 hh; exact absurd hi (hm u hu)
end
end Go.Sx
namespace Go.Sx
open Go Go.RowKit Go.Proofs
set_option maxRecDepth 100000
set_option maxHeartbeats 40000000
attribute [local irreducible] Code.wp wpList Rd Step ObS Ent
attribute [local irreducible] ao aK ak ap ax bI ah
attribute [local irreducible] aD aM am az aR aj aX dF iV
theorem uq:Bu Tryz.prog 49 [] [] (vRP rp0):=by
 first
 | infer_instance
 | exact Bu.of bld247 rfl rfl
attribute [local instance] uq
theorem mAt_ct (l:List (U Ln)) (lv:Value) (t:GR) (hl:l.length≤1000) (zl:All (jh 30) l) (zt:SzR 30 t) (w0:World) (hlv:View w0 lv l):Calls Tryz.prog 23 #[lv,vR t] w0 (RetP w0 (.tuple #[vRP (mAtV l t).1,.bool (mAtV l t).2]) True):=by
 refine enter (N:=21) (args:=[lv,vR t]) Tryz.func23 rfl rfl ?_; intro ac h
 obtain ⟨f,hf⟩:∃ f,(bJ l t).1=f:=⟨_,rfl⟩
 obtain ⟨ok,ho⟩:∃ b,(bJ l t).2=b:=⟨_,rfl⟩
 have z:SzN 30 f:=by rw [← hf]; exact an (fM l lv t hl zl zt w0 hlv)
 have c2:=wJ f t 10 og (jE z og) (eS zt og) trivial zt.2
 have hat:mAtV l t=bif ok then (rb f t,true) else (rp0,false):=by unfold mAtV; rw [hf,ho]
 refine gz h <| (xb) fun b3=>(xa) fun b4=>(W) ?_; clear h ac; intro ac wo h
 replace h:=h.emps 2
 refine fq mixed [dv lv,⟨.nd (.con True),[2]⟩,dw (vR t) [1],dw (.tuple #[vN f,.bool ok]) [2],dv (.tuple #[vN f,.bool ok]),dv (vN f),dv (.bool ok),⟨.nd (.one 7 fun x=>∃ b,x=ptr b 0),[3]⟩,dw undef [3],dv (.bool ok)]
  [⟨_,[]⟩,⟨_,[]⟩,⟨.emp,[(1,.one 1 fun x=>.row (α:=U Ln) 292 x l)]⟩,⟨.emp,[(7,.one 7 fun x=>.blk (bE x) (cN default) 163),(8,.one 7 fun x=>.blk (bE x) (cN f) 163)]⟩] h rfl (by kernel_rfl)
  ⟨oA obA,
   fun ξ _=>na (B:=fun x=>[.row (α:=U Ln) 292 x l]) [.emp] rfl (fun v _=>by simp only [dh,bo] <;> rfl) (fun _ _=>trivial) (qW (v8 (dl Tryz.call126 rfl) (fun w_ hB_ hS_=>to_ct l lv hl w_ (hlv.below hB_)))),
   oA obA,
   fun ξ _=>ly [.row (α:=U Ln) 292 (ξ 1) l] [.row (α:=U Ln) 292 (ξ 1) l] rfl rfl (eZ (dl Tryz.call125 rfl) (fun w_ hB_ hS_=>by have:=fM l (ξ 1) t hl zl zt w_ (row_view hS_ 0 rfl); rw [hf,ho] at this; exact this)),
   oA obA,oA obA,oA obA,fun _ _=>kX 3 rfl (fun _=>rfl),fun ξ hφ=>kW (u:=vN f) 3 (hφ 7 rfl) rfl rfl rfl rfl rfl rfl rfl,oA obA,trivial⟩ ?_
 clear h ac wo; intro ξ ac wo hφ h
 obtain ⟨b6,hb6⟩:∃ b,ξ 7=ptr b 0:=hφ 7
 replace h:St w0 21 [(3,ptr b3 0),(4,ptr b4 0),(6,ξ 7),(7,.bool ok)] [.blk b4 (cRP rp0) 49,.blk b3 (cR t) 46,.blk (bE (ξ 7)) (cN f) 163] ac wo:=(h.pick [0,1,3] (by decide)).sub ⟨rfl,rfl,rfl,rfl,trivial⟩
 rw [hb6] at h
 clear hb6 hφ ξ
 refine gz h <| (ai) ?_ ?_ <;> clear h ac wo <;> intro ac wo h hc1
 ·
  have hk:ok=false:=by simpa using hc1
  rw [hat,hk]
  refine gz h <| (W) ?_; clear h ac wo; intro ac wo h
  exact sf 0 h (h.retP (u:=.tuple #[vRP rp0,.bool false]) rfl trivial)
 ·
  have hk:ok=true:=by simpa using hc1
  rw [hat,hk]
  refine gz h <| (xk c2) <| (W) ?_; clear h ac wo; intro ac wo h
  exact sf 0 h (h.retP (u:=.tuple #[vRP (rb f t),.bool true]) rfl trivial)
theorem vhas_ct (i:Iv) (t:GR) (zi:SzV 30 i) (zt:SzR 30 t) (w0:World):Calls Tryz.prog 127 #[vV i,vR t] w0 (RetP w0 (.bool (cj [i] t)) True):=by
 refine enter (N:=9) (args:=[vV i,vR t]) Tryz.func127 rfl rfl ?_; intro ac h
 refine gz h <| (xb) fun b2=>(xb) fun b3=>(W) ?_; clear h ac; intro ac wo h
 refine nw h (dC (α:=Iv) (xs:=[.tmp 5]) (vs:=[vV i]) [i] k8 rfl rfl rfl (by decide)) rfl ?_; clear h ac wo; intro s1 ac wo _ h
 have zi1:All (SzV 30) [i]:=fun j hj=>by rw [List.mem_singleton.1 hj]; exact zi
 refine gz h <| (xc (ct:=by exact fun w_ hB_ hS_=>jB [i] s1 t (by show 1≤1000; decide) zi1 zt w_ (row_view hS_ 0 rfl))) <| (W) ?_; clear h ac wo; intro ac wo h
 exact (rt h) (h.retP rfl trivial)
end Go.Sx
namespace Go.Sx
open Go Go.RowKit Go.Proofs
set_option maxRecDepth 100000
set_option maxHeartbeats 40000000
attribute [local irreducible] Code.wp wpList Rd Step ObS Ent
attribute [local irreducible] ao aK ak ap ax bI ah
attribute [local irreducible] aD aM am az aR aj aX dF iV
attribute [local instance] uq
instance cf127:Cf Tryz.prog 127:=⟨Tryz.call127⟩
instance cf130:Cf Tryz.prog 130:=⟨Tryz.call130⟩
theorem vAt_hit {l:List (U Ln)} {t:GR} {i:Nat} (hi:i < l.length) (hB:∀ j,j < i→cj [(gt l j).iv] t=false) (h:cj [(gt l i).iv] t=true):sj l t=(⟨qAt (lxs (gt l i).f) t,qAt (lys (gt l i).f) t⟩,true):=by
 unfold sj
 have:l.find? (fun u=>cj [u.iv] t)=some (gt l i):=by
  rw [List.find?_eq_some_iff_getElem]
  refine ⟨h,i,hi,(fU hi).symm,fun j hj=>?_⟩
  have:=hB j hj
  rw [fU (show j < l.length by omega)] at this
  rw [this]; rfl
 rw [this]
 show (rb (gt l i).f t,true)=_
 unfold rb; rfl
theorem vAt_no {l:List (U Ln)} {t:GR} (hB:∀ j,j < l.length→cj [(gt l j).iv] t=false):sj l t=(rp0,false):=by
 unfold sj
 have:l.find? (fun u=>cj [u.iv] t)=none:=by
  rw [List.find?_eq_none]
  intro u hu
  obtain ⟨j,hj,rfl⟩:=List.getElem_of_mem hu
  have:=hB j hj
  rw [fU hj] at this
  rw [this]; decide
 rw [this]
theorem vAt_ct (l:List (U Ln)) (lv:Value) (t:GR) (hl:l.length≤1000) (zl:All (jh 30) l) (zt:SzR 30 t) (w0:World) (hlv:View w0 lv l):Calls Tryz.prog 24 #[lv,vR t] w0 (RetP w0 (.tuple #[vRP (sj l t).1,.bool (sj l t).2]) True):=by
 refine enter (N:=38) (args:=[lv,vR t]) Tryz.func24 rfl rfl ?_; intro ac h
 have hlen:=hlv.len
 refine gz h <| (xb) fun b3=>(xa) fun b4=>(W) ?_; clear h ac; intro ac wo h
 refine wp_loop_ghost (fun n_ a_ w_=>∃ (i:Nat),(l.length - i < n_)∧(i≤l.length)∧(∀ j,j < i→cj [(gt l j).iv] t=false)∧St w0 38 [(0,lv),(3,ptr b3 0),(4,ptr b4 0),(5,.bool false),(6,iN i)] [.blk b4 (cRP rp0) 49,.blk b3 (cR t) 46] a_ w_) (l.length+1) ⟨0,by omega,by omega,fun j hj=>by omega,h.re [0,1]⟩ ?_
 clear h ac wo; rintro n1 ac wo ⟨i,hm1,hi,hB,h⟩
 obtain ⟨m1,rfl⟩:∃ m,n1=m+1:=⟨n1 - 1,by omega⟩
 refine gz h <| (ai) ?_ ?_ <;> clear h ac wo <;> intro ac wo h hc1
 ·
  have hd1:i < l.length:=by have:=of_decide_eq_true hc1; omega
  have n1':=hlv.nn hd1
  have zu:jh 30 (gt l i):=zl _ (by rw [fU hd1]; exact List.getElem_mem _)
  refine gz h <| (dr0 (hob:=(oK (vhas_ct (gt l i).iv t zu.1 zt)) <| oE)) <| (ai) ?_ ?_ <;> clear h ac wo <;> intro ac wo h hc2
  ·
   have e:=vAt_hit hd1 hB hc2
   rw [e]
   obtain ⟨f,hf⟩:∃ f,(gt l i).f=f:=⟨_,rfl⟩
   have c1:=vxs_ct (gt l i).f 29 og (jE zu.2 og)
   have c2:=tS (lxs (gt l i).f) t 10 og (an (c1 w0)) (eS zt og) trivial zt.2
   have c3:=vys_ct (gt l i).f 29 og (jE zu.2 og)
   have c4:=tS (lys (gt l i).f) t 10 og (an (c3 w0)) (eS zt og) trivial zt.2
   refine gz h <| (dr1 (H:=[⟨.blk b4 (cRP rp0) 49,[(17,.con (.blk b4 (cRP (⟨qAt (lxs (gt l i).f) t,qAt (lys (gt l i).f) t⟩:RPt)) 49))]⟩,⟨_,[]⟩]) (hob:=(oK c1) <| (oK c2) <| (oK c3) <| (oK c4) <| oE)) <| (W) ?_; clear h ac wo; intro ac wo h
   exact sf 0 h (h.retP (u:=.tuple #[vRP ⟨qAt (lxs (gt l i).f) t,qAt (lys (gt l i).f) t⟩,.bool true]) rfl trivial)
  ·
   refine gz h <| (W) ?_; clear h ac wo; intro ac wo h
   refine aL ⟨m1,by omega,i+1,by omega,by omega,fun j hj=>?_,h.re [0,1]⟩
   by_cases e:j=i
   · subst e; exact hc2
   · exact hB j (by omega)
 ·
  obtain rfl:i=l.length:=by have:=of_decide_eq_false hc1; omega
  rw [vAt_no hB]
  refine gz h <| (W) ?_; clear h ac wo; intro ac wo h
  exact sf 0 h (h.retP (u:=.tuple #[vRP rp0,.bool false]) rfl trivial)
theorem pints_ct (l:List (U Ln)) (lv:Value) (hl:l.length≤1000) (w0:World) (hlv:View w0 lv l):Calls Tryz.prog 233 #[lv] w0 (RetR w0 74 (l.map fun u=>u.iv) True):=by
 refine enter (N:=19) (args:=[lv]) Tryz.func233 rfl rfl ?_; intro ac h
 have hlen:=hlv.len
 refine gz h <| (W) ?_; clear h ac; intro ac wo h
 replace h:=h.nilRow (α:=Iv) 74
 refine wp_loop_ghost (fun n_ a_ w_=>∃ (i:Nat) (sv:Value),(l.length - i < n_)∧(i≤l.length)∧St w0 19 [(0,lv),(3,sv),(6,lv),(7,iN l.length),(8,iN i)] [.row (α:=Iv) 74 sv ((l.take i).map fun u=>u.iv)] a_ w_) (l.length+1) ⟨0,_,by omega,by omega,h.re [0]⟩ ?_
 clear h ac wo; rintro n1 ac wo ⟨i,sv,hm1,hi,h⟩
 obtain ⟨m1,rfl⟩:∃ m,n1=m+1:=⟨n1 - 1,by omega⟩
 refine gz h <| (ai) ?_ ?_ <;> clear h ac wo <;> intro ac wo h hc1
 ·
  have hd1:i < l.length:=by have:=of_decide_eq_true hc1; omega
  have n1':=hlv.nn hd1
  refine gz h <| (xa) fun b5=>(W) ?_; clear h ac wo; intro ac wo h
  refine nw h (dC (α:=Iv) (xs:=[.tmp 14]) (vs:=[vV (gt l i).iv]) [(gt l i).iv] k8 rfl rfl rfl (by decide)) rfl ?_; clear h ac wo; intro s1 ac wo _ h
  refine on2 h 2 0 rfl rfl (gp (xs:=(l.take i).map fun u=>u.iv) (ys:=[(gt l i).iv]) k8 (fun w hs=>(row_view hs 0 rfl)) rfl rfl (by rw [List.length_map,List.length_take]; show _+1≤_; omega)) rfl ?_; clear h ac wo; intro s2 ac wo _ h
  rw [show (l.take i).map (fun u=>u.iv)++[(gt l i).iv]=(l.take (i+1)).map fun u=>u.iv by rw [List.take_succ_eq_append_getElem hd1,List.map_append,fU hd1]; rfl] at h
  refine gz h <| (W) ?_; clear h ac wo; intro ac wo h
  exact aL ⟨m1,by omega,i+1,s2,by omega,by omega,h.re [0]⟩
 ·
  obtain rfl:i=l.length:=by have:=of_decide_eq_false hc1; omega
  rw [List.take_length] at h
  refine gz h <| (W) ?_; clear h ac wo; intro ac wo h
  exact (rt h) (h.retR 0 rfl trivial)
section
variable [K:Key]
theorem wQ (l:List (U Ln)) (lv:Value) (hl:l.length≤100) (hw:∀ u∈l,Wv u.iv) (w0:World) (hlv:View w0 lv l):Calls Tryz.prog 131 #[lv] w0 (RetR w0 74 (mf l) (All (SzV 30) (mf l)∧(mf l).length≤2*l.length)):=by
 refine enter (N:=6) (args:=[lv]) Tryz.func131 rfl rfl ?_; intro ac h
 have hwm:∀ i∈l.map (fun u=>u.iv),Wv i:=fun i hi=>by obtain ⟨u,hu,rfl⟩:=List.mem_map.1 hi; exact hw u hu
 refine gz h <| (W) ?_; clear h ac; intro ac wo h
 refine ip (xs:=l.map fun u=>u.iv) h (dl Tryz.call233 rfl) (fun w_ hB_ hS_=>pints_ct l lv (by omega) w_ (hlv.below hB_)) rfl ?_; clear h ac wo; intro sv ac wo _ h
 have hp:=RetR.pr (gM (l.map fun u=>u.iv) sv (by rw [List.length_map]; omega) hwm (wvs hwm) wo (row_view h.sep 0 rfl))
 rw [List.length_map] at hp
 refine gz h <| (W) ?_; clear h ac wo; intro ac wo h
 refine ip (xs:=mf l) h (dl Tryz.call132 rfl) (fun w_ hB_ hS_=>gM (l.map fun u=>u.iv) sv (by rw [List.length_map]; omega) hwm (wvs hwm) w_ (row_view hS_ 0 rfl)) rfl ?_; clear h ac wo; intro s2 ac wo _ h
 refine gz h <| (W) ?_; clear h ac wo; intro ac wo h
 exact (rt h) (h.retR 0 rfl hp)
theorem mdom_ct (l:List (U Ln)) (lv:Value) (hl:l.length≤100) (hw:∀ u∈l,Wv u.iv) (w0:World) (hlv:View w0 lv l):Calls Tryz.prog 28 #[lv] w0 (RetR w0 74 (mf l) (All (SzV 30) (mf l)∧(mf l).length≤2*l.length)):=by
 refine enter (N:=6) (args:=[lv]) Tryz.func28 rfl rfl ?_; intro ac h
 refine gz h <| (W) ?_; clear h ac; intro ac wo h
 refine ip (xs:=l) h (dl Tryz.call126 rfl) (fun w_ hB_ hS_=>to_ct l lv (by omega) w_ (hlv.below hB_)) rfl ?_; clear h ac wo; intro sv ac wo _ h
 have hp:=RetR.pr (wQ l sv hl hw wo (row_view h.sep 0 rfl))
 refine gz h <| (W) ?_; clear h ac wo; intro ac wo h
 refine ip (xs:=mf l) h (dl Tryz.call131 rfl) (fun w_ hB_ hS_=>wQ l sv hl hw w_ (row_view hS_ 0 rfl)) rfl ?_; clear h ac wo; intro s2 ac wo _ h
 refine gz h <| (W) ?_; clear h ac wo; intro ac wo h
 exact (rt h) (h.retR 0 rfl hp)
end
theorem eqI_ct (l:List Iv) (lv mv:Value) (hl:l.length≤1000) (w0:World) (hlv:View w0 lv l) (hmv:View w0 mv l):Calls Tryz.prog 130 #[lv,mv] w0 (RetP w0 (.bool true) True):=by
 refine enter (N:=26) (args:=[lv,mv]) Tryz.func130 rfl rfl ?_; intro ac h
 have hlen:=hlv.len
 refine gz h <| (ai) ?_ ?_ <;> clear h ac <;> intro ac wo h hc1
 · exfalso; simp at hc1
 refine gz h <| (W) ?_; clear h ac wo; intro ac wo h
 refine wp_loop_ghost (fun n_ a_ w_=>∃ (i:Nat),(l.length - i < n_)∧(i≤l.length)∧St w0 26 [(0,lv),(1,mv),(12,iN l.length),(13,iN i)] [] a_ w_) (l.length+1) ⟨0,by omega,by omega,h.rs⟩ ?_
 clear h ac wo; rintro n1 ac wo ⟨i,hm1,hi,h⟩
 obtain ⟨m1,rfl⟩:∃ m,n1=m+1:=⟨n1 - 1,by omega⟩
 refine gz h <| (ai) ?_ ?_ <;> clear h ac wo <;> intro ac wo h hc2
 ·
  have hd1:i < l.length:=by have:=of_decide_eq_true hc2; omega
  refine gz h <| (W) ?_; clear h ac wo; intro ac wo h
  refine gz h <| (dr0 (hob:=oE)) <| (ai) ?_ ?_ <;> clear h ac wo <;> intro ac wo h hc3
  · exfalso; simp at hc3
  · refine gz h <| (W) ?_; clear h ac wo; intro ac wo h
    exact aL ⟨m1,by omega,i+1,by omega,by omega,h.re []⟩
 ·
  refine gz h <| (W) ?_; clear h ac wo; intro ac wo h
  exact (rt h) (h.retP rfl trivial)
theorem pEq_ct (l:List Iv) (lv mv:Value) (hl:l.length≤1000) (w0:World) (hlv:View w0 lv l) (hmv:View w0 mv l):Calls Tryz.prog 27 #[lv,mv] w0 (RetP w0 (.bool true) True):=by
 refine enter (N:=8) (args:=[lv,mv]) Tryz.func27 rfl rfl ?_; intro ac h
 refine gz h <| (xc (ct:=by exact fun w_ hB_ hS_=>eqI_ct l lv mv hl w_ (hlv.below hB_) (hmv.below hB_))) <| (W) ?_; clear h ac; intro ac wo h
 exact (rt h) (h.retP rfl trivial)
end Go.Sx
namespace Go.Sx
open Go Go.RowKit Go.Proofs
set_option maxRecDepth 100000
set_option maxHeartbeats 40000000
attribute [local irreducible] Code.wp wpList Rd Step ObS Ent
attribute [local irreducible] ao aK ak ap ax bI ah
attribute [local irreducible] aD aM am az aR aj aX dF iV
attribute [local instance] uq yh
instance cf23:Cf Tryz.prog 23:=⟨Tryz.call23⟩
instance cf24:Cf Tryz.prog 24:=⟨Tryz.call24⟩
theorem eqi49:EqIn Tryz.prog 5 49 vRP:=eqS (c:=cRP) (fun _=>rfl) Tryz.underlying49 Tryz.stoodInHeld49 fun d x y w hd=>by
 refine Eq.trans (eqF (by decide) (cZ aa46 zz46 (v:=vR x.x) rfl w) (cZ aa46 zz46 (v:=vR y.x) rfl w) (xH d _ _ w og) (eqF (by decide) (cZ aa46 zz46 (v:=vR x.y) rfl w) (cZ aa46 zz46 (v:=vR y.y) rfl w) (xH d _ _ w og) eqF0)) ?_
 congr 1
 rw [decide_eq_decide]
 cases x; cases y; simp
theorem eqp49:EqP Tryz.prog 49 vRP:=EqIn.p (k:=5) rfl (c:=fun x=>(cRP x).toArray) (fun _=>rfl) Tryz.eqGuardType49 eqi49
instance ep49:Ep Tryz.prog 49 RPt inferInstance vRP:=⟨eqp49⟩
theorem at_g {a b:Bool} {n m:Nat} (hg:(!(a || b || decide ((n:Int)>8) || decide ((m:Int)>8)))=true):n≤8∧m≤8:=by
 simp at hg; omega
section
attribute [local instance 2000] sh27X sh25Y sh71X
theorem atX_ct (c:Crq) (s:List Stq) (sv:Value) (p q:Nat) (x:XR) (hz:xsz x.p≤9223372036854775807∧xsz x.r≤9223372036854775807) (hng:¬ (S8R x∧GdR x)) (w0:World) (hsv:View w0 sv s):Calls Tryz.prog 4 #[vCr c sv,vCt p q,vXR x] w0 (RetP w0 (.bool true) True):=by
 obtain ⟨e,he,hne⟩:∃ e:Int,(S8R x→∀ w0,Calls Tryz.prog 22 #[vXR x] w0 (RetP w0 (.int .i64 e) True))∧(S8R x→e≠0):=by
  by_cases h8:S8R x
  · obtain ⟨e,he,hG⟩:=rchkX_ct x h8
    exact ⟨e,fun _=>he,fun _ h0=>hng ⟨h8,hG h0⟩⟩
  · exact ⟨0,fun h=>absurd h h8,fun h=>absurd h h8⟩
 have hs1:x.p.n.b.size+x.p.d.b.size≤9223372036854775807:=hz.1
 have hs2:x.r.n.b.size+x.r.d.b.size≤9223372036854775807:=hz.2
 refine enter (N:=131) (args:=[vCr c sv,vCt p q,vXR x]) Tryz.func4 rfl rfl ?_; intro ac h
 haveI:On:=⟨trivial⟩
 refine gz h <| (xb) fun b3=>(xb) fun b4=>(xb) fun b5=>(xk nt) <| (xg (hs:=by exact fun hg=>eZ enA (fun w_ hB_ hS_=>tG c s sv w_ (hsv.below hB_)))) <| (xg (hs:=by exact fun hg=>(Rd.of_nil (i0 uu9 (dr rfl hg))).step)) <| (xg (hs:=by exact fun hg=>(Rd.of_nil (i0 uu9 (dr rfl hg))).step)) <| (xg (hs:=by exact fun hg=>(Rd.of_nil (i0 uu9 (dr rfl hg))).step)) <| (xg (hs:=by exact fun hg=>(Rd.of_nil (i0 uu9 (dr rfl hg))).step)) <| (xg (hs:=by exact fun hg=>eZ enA (kk (he (at_g hg))))) <| (ai) ?_ ?_ <;> clear h ac <;> intro ac wo h hc1
 · refine gz h <| (xk nt) <| (W) ?_; clear h ac wo; intro ac wo h
   exact (rt h) (h.retP rfl trivial)
 · exfalso
   rw [Bool.or_eq_false_iff] at hc1
   have h8:S8R x:=by
    have h9:=hc1.1
    simp at h9
    exact ⟨by unfold xsz; omega,by unfold xsz; omega⟩
   have:=hc1.2
   rw [show (e != 0)=true from bne_iff_ne.2 (hne h8)] at this
   exact Bool.noConfusion this
end
end Go.Sx
namespace Go.Sx
open Go Go.RowKit Go.Proofs
section
variable {P:Program} {w0:World} {ops:List Oper} {H:List Hist} {i:Nat} {G:(Nat→Value)→List (Nat×Value)} {d:DOp} {R:(Nat→Value)→Prop}
theorem oI {o:Oper} (h:∀ ξ,ObS P w0 ops H G ξ i o d):∀ ξ,R ξ→ObS2 P w0 ops H G ξ i o d:=fun ξ _=>obI (h ξ)
theorem oJ {op:Op} {ty:TypeId} {pos:String} {aft:Array Edge} {dst:Option Tmp} {j:Nat} {want:Bool} (h:∀ ξ,ObS P w0 ops H G ξ i ⟨dst,op,ty,pos,aft,none⟩ d)
 (hl:∀ ξ,look (G ξ) (((ops[j]?).bind (·.dst)).getD 0)=some (.bool want):=by intro _; rfl) (hd:((ops[j]?).bind (·.dst)).isSome=true:=by rfl):∀ ξ,R ξ→ObS2 P w0 ops H G ξ i ⟨dst,op,ty,pos,aft,some (j,want)⟩ d:=fun ξ _=>obK (hl ξ) hd (h ξ)
end
end Go.Sx
