/- A part of the proof of movingpointBoxes. -/
import Derived.Test.YtpfdaoajcnophaaGreatDoorProg
import Derived.Test.YtpfdaoajcnophaaGreatDoorL4
set_option linter.unusedVariables false
set_option linter.unusedSimpArgs false
open Go.Proofs.Tryz renaming isAgg4 → aa4, underlying4 → nn4, isAgg9 → aa9, isAgg27 → aa27, sizeOf27 → zz27, isAgg29 → aa29, sizeOf29 → zz29
namespace Go.Sx
open Go Go.RowKit Go.Proofs
set_option maxRecDepth 100000
set_option maxHeartbeats 40000000
attribute [local irreducible] Code.wp wpList Rd Step ObS Ent
theorem eqi25:EqIn Tryz.prog 2 27 vI:=eqS (c:=cI) (fun _=>rfl) Tryz.underlying27 Tryz.stoodInHeld27 fun d x y w hd=>by
 refine Eq.trans (eqF (by decide) (eJ aa4 rfl w) (eJ aa4 rfl w) (eqB nn4 d og _ _ w) (eqF (by decide) (eJ aa9 rfl w) (eJ aa9 rfl w) (eqBs Tryz.underlying9 d og _ _ w) eqF0)) ?_
 congr 1
 rw [decide_eq_decide]
 cases x; cases y; simp
theorem eqp25:EqP Tryz.prog 27 vI:=EqIn.p (k:=2) rfl (c:=fun x=>(cI x).toArray) (fun _=>rfl) Tryz.eqGuardType27 eqi25
instance yL5_1:Ep Tryz.prog 27 GI inferInstance vI:=⟨eqp25⟩
theorem qh:EqIn Tryz.prog 3 29 vQ:=eqS (c:=cQ) (fun _=>rfl) Tryz.underlying29 Tryz.stoodInHeld29 fun d x y w hd=>by
 refine Eq.trans (eqF (by decide) (dc aa27 zz27 (v:=vI (x.num)) rfl w) (dc aa27 zz27 (v:=vI (y.num)) rfl w) (eqi25 d _ _ w og) (eqF (by decide) (dc aa27 zz27 (v:=vI (x.den)) rfl w) (dc aa27 zz27 (v:=vI (y.den)) rfl w) (eqi25 d _ _ w og) eqF0)) ?_
 congr 1
 rw [decide_eq_decide]
 cases x; cases y; simp
theorem eqp27:EqP Tryz.prog 29 vQ:=EqIn.p (k:=3) rfl (c:=fun x=>(cQ x).toArray) (fun _=>rfl) Tryz.eqGuardType29 qh
instance yL5_2:Ep Tryz.prog 29 GQ inferInstance vQ:=⟨eqp27⟩
theorem eqi53:EqIn Tryz.prog 4 72 vD:=eqS (c:=cD) (fun _=>rfl) Tryz.underlying72 Tryz.stoodInHeld72 fun d x y w hd=>by
 refine Eq.trans (eqF (by decide) (dc aa29 zz29 (v:=vQ (x.c0)) rfl w) (dc aa29 zz29 (v:=vQ (y.c0)) rfl w) (qh d _ _ w og) (eqF (by decide) (dc aa29 zz29 (v:=vQ (x.c1)) rfl w) (dc aa29 zz29 (v:=vQ (y.c1)) rfl w) (qh d _ _ w og) (eqF (by decide) (dc aa29 zz29 (v:=vQ (x.c2)) rfl w) (dc aa29 zz29 (v:=vQ (y.c2)) rfl w) (qh d _ _ w og) eqF0))) ?_
 congr 1
 rw [decide_eq_decide]
 cases x; cases y; simp
theorem eqp53:EqP Tryz.prog 72 vD:=EqIn.p (k:=4) rfl (c:=fun x=>(cD x).toArray) (fun _=>rfl) Tryz.eqGuardType72 eqi53
instance yL5_3:Ep Tryz.prog 72 Qd inferInstance vD:=⟨eqp53⟩
theorem z7:EqIn Tryz.prog 4 46 vR:=eqS (c:=cR) (fun _=>rfl) Tryz.underlying46 Tryz.stoodInHeld46 fun d x y w hd=>by
 refine Eq.trans (eqF (by decide) (dc aa29 zz29 (v:=vQ (x.p)) rfl w) (dc aa29 zz29 (v:=vQ (y.p)) rfl w) (qh d _ _ w og) (eqF (by decide) (dc aa29 zz29 (v:=vQ (x.r)) rfl w) (dc aa29 zz29 (v:=vQ (y.r)) rfl w) (qh d _ _ w og) (eqF (by decide) (eJ aa4 rfl w) (eJ aa4 rfl w) (eqB nn4 d og _ _ w) eqF0))) ?_
 congr 1
 rw [decide_eq_decide]
 cases x; cases y; simp
theorem eqp71:EqP Tryz.prog 46 vR:=EqIn.p (k:=4) rfl (c:=fun x=>(cR x).toArray) (fun _=>rfl) Tryz.eqGuardType46 z7
instance yL5_4:Ep Tryz.prog 46 GR inferInstance vR:=⟨eqp71⟩
def cw (a:GI):Int :=
 bif (decide (a.mag=0)) then
  0
 else
  bif a.neg then
   (-1)
  else
   1
theorem d8 (a:GI) (w0:World):Calls Tryz.prog 197 #[(vI a)] w0 (dE w0 (.int .i64 (cw a)) ((-1≤(cw a)∧(cw a)≤1))):=by
 refine enter (N:=10) (args:=[(vI a)]) Tryz.func197 rfl rfl ?_; intro ac h
 refine gz h <| (xb) fun b1=>(ai) ?_ ?_ <;> clear h ac <;> intro ac wo h hc1
 ·
  have hd1:=of_decide_eq_true hc1
  have hd:cw a=0:=pt
  refine gz h <| (W) ?_; clear h ac wo; intro ac wo h
  exact (rt h) (h.retP (by rw [hd] <;> rfl) (by rw [hd]; exact by first | omega | exact fC og og))
 ·
  have hd1:=of_decide_eq_false hc1
  refine gz h <| (ai) ?_ ?_ <;> clear h ac wo <;> intro ac wo h hc2
  ·
   have hd:cw a=(-1):=pt
   refine gz h <| (W) ?_; clear h ac wo; intro ac wo h
   exact (rt h) (h.retP (by rw [hd] <;> rfl) (by rw [hd]; exact by first | omega | exact fC og og))
  ·
   have hd:cw a=1:=pt
   refine gz h <| (W) ?_; clear h ac wo; intro ac wo h
   exact (rt h) (h.retP (by rw [hd] <;> rfl) (by rw [hd]; exact by first | omega | exact fC og og))
def az (a:GI):GI :=
 (aB (!a.neg) a.mag)
theorem dV (a:GI) (k:Nat) (hk:k≤40) (za:SzI k a) (w0:World):Calls Tryz.prog 226 #[(vI a)] w0 (dE w0 (vI (az a)) (SzI k (az a))):=by
 refine enter (N:=9) (args:=[(vI a)]) Tryz.func226 rfl rfl ?_; intro ac h
 have c1:=bU (!a.neg) a.mag k og za
 have s1:=ap (c1 w0)
 refine gz h <| (xb) fun b1=>(xa) fun b2=>(xk c1) <| (W) ?_; clear h ac; intro ac wo h
 exact ret h rfl (.cell (v:=(vI (aB (!a.neg) a.mag))) rfl (i:=0) rfl aa27 zz27 rfl rfl rfl .nil) rfl (h.retP (by unfold az; rfl) (by unfold az; exact s1))
def dx (a:GI) (b:GI):Int :=
 bif (a.neg != b.neg) then
  (bN (cw a) (cw b))
 else
  bif a.neg then
   -(bk a.mag b.mag)
  else
   (bk a.mag b.mag)
theorem gu (a:GI) (b:GI) (k:Nat) (hk:k≤40) (za:SzI k a) (zb:SzI k b) (w0:World):Calls Tryz.prog 95 #[(vI a),(vI b)] w0 (dE w0 (.int .i64 (dx a b)) ((-1≤(dx a b)∧(dx a b)≤1))):=by
 refine enter (N:=26) (args:=[(vI a),(vI b)]) Tryz.func95 rfl rfl ?_; intro ac h
 refine gz h <| (xb) fun b1=>(xb) fun b2=>(xo (hs:=by exact ss nn4 rfl rfl)) <| (ai) ?_ ?_ <;> clear h ac <;> intro ac wo h hc1
 ·
  refine gz h <| (W) ?_; clear h ac wo; intro ac wo h
  have p2:=ap ((d8 a) w0)
  have p4:=ap ((d8 b) w0)
  have p6:=ap ((ki (cw a) (cw b)) w0)
  have hd:dx a b=(bN (cw a) (cw b)):=pt
  refine gz h <| (dr0 (hob:=(oK (d8 a)) <| (oK (d8 b)) <| (oK (ki (cw a) (cw b))) <| oE)) <| (W) ?_; clear h ac wo; intro ac wo h
  exact (rt h) (h.retP (by rw [hd] <;> rfl) (by rw [hd]; exact by first | omega | exact fC og og))
 ·
  have p8:=ap ((eF a.mag b.mag) w0)
  refine gz h <| (xk (eF a.mag b.mag)) <| (ai) ?_ ?_ <;> clear h ac wo <;> intro ac wo h hc2
  ·
   have hd:dx a b=-(bk a.mag b.mag):=pt
   refine gz h <| (xo (hs:=by exact r_neg rfl (r:=-(bk a.mag b.mag)) (by rw [IntKind.wrap_i64]; omega))) <| (W) ?_; clear h ac wo; intro ac wo h
   exact (rt h) (h.retP (by rw [hd] <;> rfl) (by rw [hd]; exact by first | omega | exact fC og og))
  ·
   have hd:dx a b=(bk a.mag b.mag):=pt
   refine gz h <| (W) ?_; clear h ac wo; intro ac wo h
   exact (rt h) (h.retP (by rw [hd] <;> rfl) (by rw [hd]; exact by first | omega | exact fC og og))
def aJ (a:GI) (b:GI):GI :=
 bif (a.neg == b.neg) then
  (aB a.neg (cZ a.mag b.mag))
 else
  bif (decide ((bk a.mag b.mag)≥0)) then
   (aB a.neg (cY a.mag b.mag))
  else
   (aB b.neg (cY b.mag a.mag))
theorem eV (a:GI) (b:GI) (k:Nat) (hk:(k+1)≤40) (za:SzI (k+1) a) (zb:SzI (k+1) b) (w0:World):Calls Tryz.prog 210 #[(vI a),(vI b)] w0 (dE w0 (vI (aJ a b)) (SzI k (aJ a b))):=by
 refine enter (N:=42) (args:=[(vI a),(vI b)]) Tryz.func210 rfl rfl ?_; intro ac h
 refine gz h <| (xb) fun b1=>(xb) fun b2=>(xa) fun b3=>(xo (hs:=by exact yH nn4 rfl rfl)) <| (ai) ?_ ?_ <;> clear h ac <;> intro ac wo h hc1
 ·
  have hd1:=eq_of_beq hc1
  refine gz h <| (W) ?_; clear h ac wo; intro ac wo h
  have s1:=ap ((gW a.mag b.mag k og za zb) w0)
  have s2:=ap ((bU a.neg (cZ a.mag b.mag) k og s1) w0)
  have hd:aJ a b=(aB a.neg (cZ a.mag b.mag)):=pt
  refine gz h <| (dr1 (H:=[⟨.blk b3 (cI (⟨false,0⟩:GI)) 27,[(8,.con (.blk b3 (cI (aB a.neg (cZ a.mag b.mag))) 27))]⟩,⟨_,[]⟩,⟨_,[]⟩]) (hob:=(oK (gW a.mag b.mag k og za zb)) <| (oK (bU a.neg (cZ a.mag b.mag) k og s1)) <| oE)) <| (W) ?_; clear h ac wo; intro ac wo h
  exact ret h rfl (.cell (v:=(vI (aB a.neg (cZ a.mag b.mag)))) rfl (i:=0) rfl aa27 zz27 rfl rfl rfl .nil) rfl (h.retP (by rw [hd] <;> rfl) (by rw [hd]; exact s2))
 ·
  have hd1:=ne_of_beq_false hc1
  have p4:=ap ((eF a.mag b.mag) w0)
  refine gz h <| (xk (eF a.mag b.mag)) <| (ai) ?_ ?_ <;> clear h ac wo <;> intro ac wo h hc2
  ·
   have hd2:=of_decide_eq_true hc2
   refine gz h <| (W) ?_; clear h ac wo; intro ac wo h
   have s5:=ap ((gi a.mag b.mag (k+1) og za zb (by first | exact tu ‹_› | exact tj ‹_›)) w0)
   have s6:=ap ((bU a.neg (cY a.mag b.mag) (k+1) og s5) w0)
   have hd:aJ a b=(aB a.neg (cY a.mag b.mag)):=pt
   refine gz h <| (dr1 (H:=[⟨.blk b3 (cI (⟨false,0⟩:GI)) 27,[(8,.con (.blk b3 (cI (aB a.neg (cY a.mag b.mag))) 27))]⟩,⟨_,[]⟩,⟨_,[]⟩]) (hob:=(oK (gi a.mag b.mag (k+1) og za zb (by first | exact tu ‹_› | exact tj ‹_›))) <| (oK (bU a.neg (cY a.mag b.mag) (k+1) og s5)) <| oE)) <| (W) ?_; clear h ac wo; intro ac wo h
   exact ret h rfl (.cell (v:=(vI (aB a.neg (cY a.mag b.mag)))) rfl (i:=0) rfl aa27 zz27 rfl rfl rfl .nil) rfl (h.retP (by rw [hd] <;> rfl) (by rw [hd]; exact (fA s6 og)))
  ·
   have hd2:=of_decide_eq_false hc2
   refine gz h <| (W) ?_; clear h ac wo; intro ac wo h
   have s7:=ap ((gi b.mag a.mag (k+1) og zb za (by first | exact tu ‹_› | exact tj ‹_›)) w0)
   have s8:=ap ((bU b.neg (cY b.mag a.mag) (k+1) og s7) w0)
   have hd:aJ a b=(aB b.neg (cY b.mag a.mag)):=pt
   refine gz h <| (dr1 (H:=[⟨.blk b3 (cI (⟨false,0⟩:GI)) 27,[(8,.con (.blk b3 (cI (aB b.neg (cY b.mag a.mag))) 27))]⟩,⟨_,[]⟩,⟨_,[]⟩]) (hob:=(oK (gi b.mag a.mag (k+1) og zb za (by first | exact tu ‹_› | exact tj ‹_›))) <| (oK (bU b.neg (cY b.mag a.mag) (k+1) og s7)) <| oE)) <| (W) ?_; clear h ac wo; intro ac wo h
   exact ret h rfl (.cell (v:=(vI (aB b.neg (cY b.mag a.mag)))) rfl (i:=0) rfl aa27 zz27 rfl rfl rfl .nil) rfl (h.retP (by rw [hd] <;> rfl) (by rw [hd]; exact (fA s8 og)))
def ae (a:GI) (b:GI):GI :=
 (aB (a.neg != b.neg) (dX a.mag b.mag))
theorem bD (a:GI) (b:GI) (k:Nat) (hk:(k+1)≤40) (za:SzI (k+1) a) (zb:SzI (k+1) b) (w0:World):Calls Tryz.prog 223 #[(vI a),(vI b)] w0 (dE w0 (vI (ae a b)) (SzI k (ae a b))):=by
 refine enter (N:=16) (args:=[(vI a),(vI b)]) Tryz.func223 rfl rfl ?_; intro ac h
 have s1:=ap ((jQ a.mag b.mag k og za zb) w0)
 have s2:=ap ((bU (a.neg != b.neg) (dX a.mag b.mag) k og s1) w0)
 refine gz h <| (xb) fun b1=>(xb) fun b2=>(xa) fun b3=>(dr1 (H:=[⟨.blk b3 (cI (⟨false,0⟩:GI)) 27,[(11,.con (.blk b3 (cI (aB (a.neg != b.neg) (dX a.mag b.mag))) 27))]⟩,⟨_,[]⟩,⟨_,[]⟩]) (hob:=(oX (h:=by exact fun _=>aQ (ss nn4 rfl rfl))) <| (oK (jQ a.mag b.mag k og za zb)) <| (oK (bU (a.neg != b.neg) (dX a.mag b.mag) k og s1)) <| oE)) <| (W) ?_; clear h ac; intro ac wo h
 exact ret h rfl (.cell (v:=(vI (aB (a.neg != b.neg) (dX a.mag b.mag)))) rfl (i:=0) rfl aa27 zz27 rfl rfl rfl .nil) rfl (h.retP (by unfold ae; rfl) (by unfold ae; exact s2))
def aW (a b:GI):GI:=aB false (Nat.gcd a.mag b.mag)
theorem vw (x y:Nat):Nat.gcd y (x % y)=Nat.gcd x y:=by rw [Nat.gcd_comm x y,Nat.gcd_rec y x,Nat.gcd_comm]
theorem iV (a:GI) (b:GI) (k:Nat) (hk:k≤40) (za:SzI k a) (zb:SzI k b) (w0:World):Calls Tryz.prog 97 #[(vI a),(vI b)] w0 (dE w0 (vI (aW a b)) (SzI k (aW a b))):=by
 refine enter (N:=45) (args:=[(vI a),(vI b)]) Tryz.func97 rfl rfl ?_; intro ac h
 refine gz h <| (xb) fun b1=>(xb) fun b2=>(xa) fun b3=>(dr0 (hob:=oE)) <| (W) ?_; clear h ac; intro ac wo h
 refine wp_loop_ghost (fun n_ a_ w_=>∃ (x:Nat) (y:Nat),n_=1*y∧(Nat.gcd x y=Nat.gcd a.mag b.mag)∧(SzB k x)∧(SzB k y)∧St w0 45 [(4,(ptr b3 0)),(5,(.string (bs x))),(6,(.string (bs y)))] [.blk b3 (cI (⟨false,0⟩:GI)) 27,.blk b2 (cI b) 27,.blk b1 (cI a) 27] a_ w_) _ ⟨a.mag,b.mag,rfl,rfl,za,zb,h.re [0,1,2]⟩ ?_
 clear h ac wo; rintro _ ac wo ⟨x,y,rfl,hg,zx,zy,h⟩
 refine gz h <| (ai) ?_ ?_ <;> clear h ac wo <;> intro ac wo h hc1
 ·
  have hy:y≠0:=by simpa using hc1
  refine gz h <| (xk (gb x y)) <| (ai) ?_ ?_ <;> clear h ac wo <;> intro ac wo h hc2
  ·
   obtain ⟨ha6,hb6,hw⟩:=kI hc2
   simp only [hw] at h
   refine gz h <| (W) ?_; clear h ac wo; intro ac wo h
   refine wp_loop_ghost (fun n_ a_ w_=>∃ (u:Nat) (v:Nat),n_=1*v∧(Nat.gcd u v=Nat.gcd a.mag b.mag)∧(SzB k u)∧(SzB k v)∧(u < 18446744073709551616∧v < 18446744073709551616)∧St w0 45 [(4,(ptr b3 0)),(7,(.int .u64 ((u:Nat):Int))),(8,(.int .u64 ((v:Nat):Int)))] [.blk b3 (cI (⟨false,0⟩:GI)) 27,.blk b2 (cI b) 27,.blk b1 (cI a) 27] a_ w_) _ ⟨x,y,rfl,hg,zx,zy,⟨ha6,hb6⟩,h.re [0,1,2]⟩ ?_
   clear h ac wo; rintro _ ac wo ⟨u,v,rfl,hgu,zu,zv,hul,h⟩
   refine gz h <| (ai) ?_ ?_ <;> clear h ac wo <;> intro ac wo h hc3
   ·
    have hv:v≠0:=by have:=hc3; simp at this; omega
    refine gz h <| (dr0 (hob:=(oX (h:=by exact fun _=>aQ (tT rfl rfl (r:=((u % v:Nat):Int)) og (by rw [Int.tmod_eq_emod_of_nonneg og]; rfl)))) <| oE)) <| (W) ?_; clear h ac wo; intro ac wo h
    exact aO ⟨_,(by have:=Nat.mod_lt u (show v>0 by omega); omega),v,(u % v),rfl,(by rw [vw]; exact hgu),zv,(gH zu (Nat.mod_le _ _)),⟨hul.2,by have:=Nat.mod_lt u (show v>0 by omega); omega⟩,h.re [0,1,2]⟩
   ·
    have hv:v=0:=by have:=hc3; simp at this; omega
    subst hv
    have c1:=bU false (bL u) k og zu
    have s1:=ap (c1 w0)
    have hd:aW a b=(aB false (bL u)):=(by rw [Nat.gcd_zero_right] at hgu; unfold aW; rw [← hgu]; rfl)
    refine gz h <| (xk (di u hul.1)) <| (xk c1) <| (W) ?_; clear h ac wo; intro ac wo h
    exact ret h rfl (.cell (v:=(vI (aB false (bL u)))) rfl (i:=0) rfl aa27 zz27 rfl rfl rfl .nil) rfl (h.retP (by rw [hd] <;> rfl) (by rw [hd]; exact s1))
  ·
   have c2:=iU x y k og zx zy og
   have s2:=ap (c2 w0)
   refine gz h <| (xk c2) <| (W) ?_; clear h ac wo; intro ac wo h
   exact aO ⟨_,(by have:=Nat.mod_lt x (show y>0 by omega); omega),y,(x % y),rfl,(by rw [vw]; exact hg),zy,(gH zx (Nat.mod_le _ _)),h.re [0,1,2]⟩
 ·
  have hy:y=0:=by simpa using hc1
  subst hy
  have c3:=bU false x k og zx
  have s3:=ap (c3 w0)
  have hd:aW a b=(aB false x):=(by rw [Nat.gcd_zero_right] at hg; unfold aW; rw [← hg])
  refine gz h <| (xk c3) <| (W) ?_; clear h ac wo; intro ac wo h
  exact ret h rfl (.cell (v:=(vI (aB false x))) rfl (i:=0) rfl aa27 zz27 rfl rfl rfl .nil) rfl (h.retP (by rw [hd] <;> rfl) (by rw [hd]; exact s3))
def aD (a:GI) (b:GI):GI×GI×Int :=
 bif (decide (b.mag=0)) then
  ((⟨false,0⟩:GI),(⟨false,0⟩:GI),6)
 else
  bif (a.neg && (!(decide (((bF a.mag b.mag).2)=0)))) then
   ((aB (a.neg != b.neg) (cZ ((bF a.mag b.mag).1) 1)),(aB false (cY b.mag ((bF a.mag b.mag).2))),0)
  else
   ((aB (a.neg != b.neg) ((bF a.mag b.mag).1)),(aB false ((bF a.mag b.mag).2)),0)
theorem eN (a:GI) (b:GI) (k:Nat) (hk:(k+1)≤40) (za:SzI (k+1) a) (zb:SzI (k+1) b) (w0:World):Calls Tryz.prog 225 #[(vI a),(vI b)] w0 (dE w0 (.tuple #[(vI ((aD a b).1)),(vI ((aD a b).2.1)),(.int .i64 ((aD a b).2.2))]) (SzI k ((aD a b).1)∧SzI k ((aD a b).2.1))):=by
 refine enter (N:=43) (args:=[(vI a),(vI b)]) Tryz.func225 rfl rfl ?_; intro ac h
 refine gz h <| (xb) fun b1=>(xb) fun b2=>(xa) fun b3=>(xa) fun b4=>(ai) ?_ ?_ <;> clear h ac <;> intro ac wo h hc1
 ·
  have hd1:=of_decide_eq_true hc1
  have hd:aD a b=((⟨false,0⟩:GI),(⟨false,0⟩:GI),6):=pt
  refine gz h <| (xo (hs:=by exact bK pM exs rfl (v:=(vI (⟨false,0⟩:GI))) rfl)) <| (xo (hs:=by exact bK pM exs rfl (v:=(vI (⟨false,0⟩:GI))) rfl)) <| (W) ?_; clear h ac wo; intro ac wo h
  exact ret h rfl (.cell (v:=(vI (⟨false,0⟩:GI))) rfl (i:=1) rfl aa27 zz27 rfl rfl rfl (.cell (v:=(vI (⟨false,0⟩:GI))) rfl (i:=0) rfl aa27 zz27 rfl rfl rfl (.tmp rfl .nil))) rfl (h.retP (by rw [hd] <;> rfl) (by rw [hd]; exact ⟨(cX 0 (by decide) og),(cX 0 (by decide) og)⟩))
 ·
  have hd1:=of_decide_eq_false hc1
  have c1:=iU a.mag b.mag (k+1) og za zb og
  have s1:=ap (c1 w0)
  refine gz h <| (xk c1) <| (ai) ?_ ?_ <;> clear h ac wo <;> intro ac wo h hc2
  ·
   have s2:=ap ((gW ((bF a.mag b.mag).1) 1 k og s1.1 (cX 1 (by decide) og)) w0)
   have s3:=ap ((gi b.mag ((bF a.mag b.mag).2) (k+1) og zb s1.2 (Nat.le_of_lt (Nat.mod_lt _ og))) w0)
   refine gz h <| (dr0 (hob:=(oK (gW ((bF a.mag b.mag).1) 1 k og s1.1 (cX 1 (by decide) og))) <| (oK (gi b.mag ((bF a.mag b.mag).2) (k+1) og zb s1.2 (Nat.le_of_lt (Nat.mod_lt _ og)))) <| oE)) <| (W) ?_; clear h ac wo; intro ac wo h
   have c4:=bU (a.neg != b.neg) (cZ ((bF a.mag b.mag).1) 1) k og s2
   have s4:=ap (c4 w0)
   have c5:=bU false (cY b.mag ((bF a.mag b.mag).2)) (k+1) og s3
   have s5:=ap (c5 w0)
   have hd:aD a b=((aB (a.neg != b.neg) (cZ ((bF a.mag b.mag).1) 1)),(aB false (cY b.mag ((bF a.mag b.mag).2))),0):=pt
   refine gz h <| (xo (hs:=by exact ss nn4 rfl rfl)) <| (xk c4) <| (xk c5) <| (W) ?_; clear h ac wo; intro ac wo h
   exact ret h rfl (.cell (v:=(vI (aB (a.neg != b.neg) (cZ ((bF a.mag b.mag).1) 1)))) rfl (i:=1) rfl aa27 zz27 rfl rfl rfl (.cell (v:=(vI (aB false (cY b.mag ((bF a.mag b.mag).2))))) rfl (i:=0) rfl aa27 zz27 rfl rfl rfl (.tmp rfl .nil))) rfl (h.retP (by rw [hd] <;> rfl) (by rw [hd]; exact ⟨s4,(fA s5 og)⟩))
  ·
   have c6:=bU (a.neg != b.neg) ((bF a.mag b.mag).1) (k+1) og s1.1
   have s6:=ap (c6 w0)
   have c7:=bU false ((bF a.mag b.mag).2) (k+1) og s1.2
   have s7:=ap (c7 w0)
   have hd:aD a b=((aB (a.neg != b.neg) ((bF a.mag b.mag).1)),(aB false ((bF a.mag b.mag).2)),0):=pt
   refine gz h <| (xo (hs:=by exact ss nn4 rfl rfl)) <| (xk c6) <| (xk c7) <| (W) ?_; clear h ac wo; intro ac wo h
   exact ret h rfl (.cell (v:=(vI (aB (a.neg != b.neg) ((bF a.mag b.mag).1)))) rfl (i:=1) rfl aa27 zz27 rfl rfl rfl (.cell (v:=(vI (aB false ((bF a.mag b.mag).2)))) rfl (i:=0) rfl aa27 zz27 rfl rfl rfl (.tmp rfl .nil))) rfl (h.retP (by rw [hd] <;> rfl) (by rw [hd]; exact ⟨(fA s6 og),(fA s7 og)⟩))
def rational_one :GI :=
 (aw 1)
theorem fb (k:Nat) (hk:k≤40) (w0:World):Calls Tryz.prog 96 #[] w0 (dE w0 (vI rational_one) (SzI k rational_one)):=by
 refine enter (N:=2) (args:=[]) Tryz.func96 rfl rfl ?_; intro ac h
 have c1:=eG 1 k og  og
 have s1:=ap (c1 w0)
 refine gz h <| (xa) fun b1=>(xk c1) <| (W) ?_; clear h ac; intro ac wo h
 exact ret h rfl (.cell (v:=(vI (aw 1))) rfl (i:=0) rfl aa27 zz27 rfl rfl rfl .nil) rfl (h.retP (by unfold rational_one; rfl) (by unfold rational_one; exact s1))
def ah (n:Int):GQ :=
 (⟨(aw n),(⟨false,0⟩:GI)⟩:GQ)
theorem cq (n:Int) (k:Nat) (hk:k≤40) (hn:-9223372036854775808≤n∧n≤9223372036854775807) (w0:World):Calls Tryz.prog 101 #[(.int .i64 n)] w0 (dE w0 (vQ (ah n)) (SzQ k (ah n))):=by
 refine enter (N:=6) (args:=[(.int .i64 n)]) Tryz.func101 rfl rfl ?_; intro ac h
 have c1:=eG n k og  og
 have s1:=ap (c1 w0)
 refine gz h <| (xa) fun b1=>(xk c1) <| (xo (hs:=by exact bK nv exs rfl (v:=(vQ (⟨(aw n),(⟨false,0⟩:GI)⟩:GQ))) rfl)) <| (W) ?_; clear h ac; intro ac wo h
 exact ret h rfl (.cell (v:=(vQ (⟨(aw n),(⟨false,0⟩:GI)⟩:GQ))) rfl (i:=0) rfl aa29 zz29 rfl rfl rfl .nil) rfl (h.retP (by unfold ah; rfl) (by unfold ah; exact ⟨s1,(cX 0 (by decide) og)⟩))
def aa (a:GQ):GI :=
 bif (decide (a.den=(⟨false,0⟩:GI))) then
  rational_one
 else
  a.den
theorem bE (a:GQ) (k:Nat) (hk:k≤40) (za:SzQ k a) (w0:World):Calls Tryz.prog 221 #[(vQ a)] w0 (dE w0 (vI (aa a)) (SzI k (aa a))):=by
 refine enter (N:=10) (args:=[(vQ a)]) Tryz.func221 rfl rfl ?_; intro ac h
 refine gz h <| (xb) fun b1=>(xa) fun b2=>(xo (hs:=by exact bK pM exs rfl (v:=(vI (⟨false,0⟩:GI))) rfl)) <| (ai) ?_ ?_ <;> clear h ac <;> intro ac wo h hc1
 ·
  have hd1:=of_decide_eq_true hc1
  have c1:=fb  k og
  have s1:=ap (c1 w0)
  have hd:aa a=rational_one:=pt
  refine gz h <| (xk c1) <| (W) ?_; clear h ac wo; intro ac wo h
  exact ret h rfl (.cell (v:=(vI rational_one)) rfl (i:=0) rfl aa27 zz27 rfl rfl rfl .nil) rfl (h.retP (by rw [hd] <;> rfl) (by rw [hd]; exact s1))
 ·
  have hd1:=of_decide_eq_false hc1
  have hd:aa a=a.den:=pt
  refine gz h <| (W) ?_; clear h ac wo; intro ac wo h
  exact ret h rfl (.cell (v:=(vI a.den)) rfl (i:=0) rfl aa27 zz27 rfl rfl rfl .nil) rfl (h.retP (by rw [hd] <;> rfl) (by rw [hd]; exact za.2))
def aK (a:GI) (b:GI):GI :=
 (aD a b).1
theorem dI (a:GI) (b:GI) (k:Nat) (hk:(k+1)≤40) (za:SzI (k+1) a) (zb:SzI (k+1) b) (w0:World):Calls Tryz.prog 281 #[(vI a),(vI b)] w0 (dE w0 (vI (aK a b)) (SzI k (aK a b))):=by
 refine enter (N:=16) (args:=[(vI a),(vI b)]) Tryz.func281 rfl rfl ?_; intro ac h
 have c1:=eN a b k og za zb
 have s1:=ap (c1 w0)
 refine gz h <| (xb) fun b1=>(xb) fun b2=>(xa) fun b3=>(xk c1) <| (xa) fun b4=>(xa) fun b5=>(W) ?_; clear h ac; intro ac wo h
 exact ret h rfl (.cell (v:=(vI ((aD a b).1))) rfl (i:=2) rfl aa27 zz27 rfl rfl rfl .nil) rfl (h.retP (by unfold aK; rfl) (by unfold aK; exact s1.1))
def ba (num:GI) (den:GI):GQ :=
 bif (decide ((cw den) < 0)) then
  bif (decide ((aK (az den) (aW (az num) (az den)))=rational_one)) then
   (⟨(aK (az num) (aW (az num) (az den))),(⟨false,0⟩:GI)⟩:GQ)
  else
   (⟨(aK (az num) (aW (az num) (az den))),(aK (az den) (aW (az num) (az den)))⟩:GQ)
 else
  bif (decide ((aK den (aW num den))=rational_one)) then
   (⟨(aK num (aW num den)),(⟨false,0⟩:GI)⟩:GQ)
  else
   (⟨(aK num (aW num den)),(aK den (aW num den))⟩:GQ)
theorem ee (num:GI) (den:GI) (k:Nat) (hk:(k+1)≤40) (znum:SzI (k+1) num) (zden:SzI (k+1) den) (w0:World):Calls Tryz.prog 209 #[(vI num),(vI den)] w0 (dE w0 (vQ (ba num den)) (SzQ k (ba num den))):=by
 refine enter (N:=29) (args:=[(vI num),(vI den)]) Tryz.func209 rfl rfl ?_; intro ac h
 have p2:=ap ((d8 den) w0)
 refine gz h <| (xb) fun b1=>(xb) fun b2=>(xa) fun b3=>(xk (d8 den)) <| (ai) ?_ ?_ <;> clear h ac <;> intro ac wo h hc1
 ·
  have hd1:=of_decide_eq_true hc1
  have s3:=ap ((dV num (k+1) og znum) w0)
  have s4:=ap ((dV den (k+1) og zden) w0)
  refine gz h <| (dr1 (H:=[⟨_,[]⟩,⟨.blk b2 (cI den) 27,[(5,.con (.blk b2 (cI (az den)) 27))]⟩,⟨.blk b1 (cI num) 27,[(4,.con (.blk b1 (cI (az num)) 27))]⟩]) (hob:=(oK (dV num (k+1) og znum)) <| (oK (dV den (k+1) og zden)) <| oE)) <| (W) ?_; clear h ac wo; intro ac wo h
  have c5:=iV (az num) (az den) (k+1) og s3 s4
  have s5:=ap (c5 w0)
  have s6:=ap ((dI (az num) (aW (az num) (az den)) k og s3 s5) w0)
  have s7:=ap ((dI (az den) (aW (az num) (az den)) k og s4 s5) w0)
  refine gz h <| (xk c5) <| (xa) fun b4=>(dr1 (H:=[⟨_,[]⟩,⟨_,[]⟩,⟨.blk b2 (cI (az den)) 27,[(7,.con (.blk b2 (cI (aK (az den) (aW (az num) (az den)))) 27))]⟩,⟨.blk b1 (cI (az num)) 27,[(6,.con (.blk b1 (cI (aK (az num) (aW (az num) (az den)))) 27))]⟩]) (hob:=(oK (dI (az num) (aW (az num) (az den)) k og s3 s5)) <| (oK (dI (az den) (aW (az num) (az den)) k og s4 s5)) <| oE)) <| (W) ?_; clear h ac wo; intro ac wo h
  have s8:=ap ((fb  (k+1) og ) w0)
  refine gz h <| (dr0 (hob:=(oK (fb  (k+1) og )) <| oE)) <| (ai) ?_ ?_ <;> clear h ac wo <;> intro ac wo h hc2
  ·
   have hd2:=of_decide_eq_true hc2
   have hd:ba num den=(⟨(aK (az num) (aW (az num) (az den))),(⟨false,0⟩:GI)⟩:GQ):=pt
   refine gz h <| (xo (hs:=by exact bK pM exs rfl (v:=(vI (⟨false,0⟩:GI))) rfl)) <| (xo (hs:=by exact bK nv exs rfl (v:=(vQ (⟨(aK (az num) (aW (az num) (az den))),(⟨false,0⟩:GI)⟩:GQ))) rfl)) <| (W) ?_; clear h ac wo; intro ac wo h
   exact ret h rfl (.cell (v:=(vQ (⟨(aK (az num) (aW (az num) (az den))),(⟨false,0⟩:GI)⟩:GQ))) rfl (i:=1) rfl aa29 zz29 rfl rfl rfl .nil) rfl (h.retP (by rw [hd] <;> rfl) (by rw [hd]; exact ⟨s6,(cX 0 (by decide) og)⟩))
  ·
   have hd2:=of_decide_eq_false hc2
   have hd:ba num den=(⟨(aK (az num) (aW (az num) (az den))),(aK (az den) (aW (az num) (az den)))⟩:GQ):=pt
   refine gz h <| (xo (hs:=by exact bK nv exs rfl (v:=(vQ (⟨(aK (az num) (aW (az num) (az den))),(aK (az den) (aW (az num) (az den)))⟩:GQ))) rfl)) <| (W) ?_; clear h ac wo; intro ac wo h
   exact ret h rfl (.cell (v:=(vQ (⟨(aK (az num) (aW (az num) (az den))),(aK (az den) (aW (az num) (az den)))⟩:GQ))) rfl (i:=1) rfl aa29 zz29 rfl rfl rfl .nil) rfl (h.retP (by rw [hd] <;> rfl) (by rw [hd]; exact ⟨s6,s7⟩))
 ·
  have hd1:=of_decide_eq_false hc1
  have c9:=iV num den (k+1) og znum zden
  have s9:=ap (c9 w0)
  have s10:=ap ((dI num (aW num den) k og znum s9) w0)
  have s11:=ap ((dI den (aW num den) k og zden s9) w0)
  refine gz h <| (xk c9) <| (xa) fun b5=>(dr1 (H:=[⟨_,[]⟩,⟨_,[]⟩,⟨.blk b2 (cI den) 27,[(7,.con (.blk b2 (cI (aK den (aW num den))) 27))]⟩,⟨.blk b1 (cI num) 27,[(6,.con (.blk b1 (cI (aK num (aW num den))) 27))]⟩]) (hob:=(oK (dI num (aW num den) k og znum s9)) <| (oK (dI den (aW num den) k og zden s9)) <| oE)) <| (W) ?_; clear h ac wo; intro ac wo h
  have s12:=ap ((fb  (k+1) og ) w0)
  refine gz h <| (dr0 (hob:=(oK (fb  (k+1) og )) <| oE)) <| (ai) ?_ ?_ <;> clear h ac wo <;> intro ac wo h hc3
  ·
   have hd3:=of_decide_eq_true hc3
   have hd:ba num den=(⟨(aK num (aW num den)),(⟨false,0⟩:GI)⟩:GQ):=pt
   refine gz h <| (xo (hs:=by exact bK pM exs rfl (v:=(vI (⟨false,0⟩:GI))) rfl)) <| (xo (hs:=by exact bK nv exs rfl (v:=(vQ (⟨(aK num (aW num den)),(⟨false,0⟩:GI)⟩:GQ))) rfl)) <| (W) ?_; clear h ac wo; intro ac wo h
   exact ret h rfl (.cell (v:=(vQ (⟨(aK num (aW num den)),(⟨false,0⟩:GI)⟩:GQ))) rfl (i:=1) rfl aa29 zz29 rfl rfl rfl .nil) rfl (h.retP (by rw [hd] <;> rfl) (by rw [hd]; exact ⟨s10,(cX 0 (by decide) og)⟩))
  ·
   have hd3:=of_decide_eq_false hc3
   have hd:ba num den=(⟨(aK num (aW num den)),(aK den (aW num den))⟩:GQ):=pt
   refine gz h <| (xo (hs:=by exact bK nv exs rfl (v:=(vQ (⟨(aK num (aW num den)),(aK den (aW num den))⟩:GQ))) rfl)) <| (W) ?_; clear h ac wo; intro ac wo h
   exact ret h rfl (.cell (v:=(vQ (⟨(aK num (aW num den)),(aK den (aW num den))⟩:GQ))) rfl (i:=1) rfl aa29 zz29 rfl rfl rfl .nil) rfl (h.retP (by rw [hd] <;> rfl) (by rw [hd]; exact ⟨s10,s11⟩))
def aX (a:GQ) (b:GQ):GI×GI×GI :=
 bif (decide (a.den=b.den)) then
  (a.num,b.num,(aa a))
 else
  ((ae a.num (aa b)),(ae b.num (aa a)),(ae (aa a) (aa b)))
theorem j0 (a:GQ) (b:GQ) (k:Nat) (hk:(k+1)≤40) (za:SzQ (k+1) a) (zb:SzQ (k+1) b) (w0:World):Calls Tryz.prog 208 #[(vQ a),(vQ b)] w0 (dE w0 (.tuple #[(vI ((aX a b).1)),(vI ((aX a b).2.1)),(vI ((aX a b).2.2))]) (SzI k ((aX a b).1)∧SzI k ((aX a b).2.1)∧SzI k ((aX a b).2.2))):=by
 refine enter (N:=33) (args:=[(vQ a),(vQ b)]) Tryz.func208 rfl rfl ?_; intro ac h
 refine gz h <| (xb) fun b1=>(xb) fun b2=>(xa) fun b3=>(xa) fun b4=>(xa) fun b5=>(ai) ?_ ?_ <;> clear h ac <;> intro ac wo h hc1
 ·
  have hd1:=of_decide_eq_true hc1
  refine gz h <| (W) ?_; clear h ac wo; intro ac wo h
  have s1:=ap ((bE a (k+1) og za) w0)
  have hd:aX a b=(a.num,b.num,(aa a)):=pt
  refine gz h <| (dr1 (H:=[⟨.blk b5 (cI (⟨false,0⟩:GI)) 27,[(8,.con (.blk b5 (cI (aa a)) 27))]⟩,⟨.blk b4 (cI (⟨false,0⟩:GI)) 27,[(7,.con (.blk b4 (cI b.num) 27))]⟩,⟨.blk b3 (cI (⟨false,0⟩:GI)) 27,[(6,.con (.blk b3 (cI a.num) 27))]⟩,⟨_,[]⟩,⟨_,[]⟩]) (hob:=(oK (bE a (k+1) og za)) <| oE)) <| (W) ?_; clear h ac wo; intro ac wo h
  exact ret h rfl (.cell (v:=(vI a.num)) rfl (i:=2) rfl aa27 zz27 rfl rfl rfl (.cell (v:=(vI b.num)) rfl (i:=1) rfl aa27 zz27 rfl rfl rfl (.cell (v:=(vI (aa a))) rfl (i:=0) rfl aa27 zz27 rfl rfl rfl .nil))) rfl (h.retP (by rw [hd] <;> rfl) (by rw [hd]; exact ⟨(cu za og).1,(cu zb og).1,(fA s1 og)⟩))
 ·
  have hd1:=of_decide_eq_false hc1
  refine gz h <| (W) ?_; clear h ac wo; intro ac wo h
  have s2:=ap ((bE b (k+1) og zb) w0)
  have s3:=ap ((bD a.num (aa b) k og za.1 s2) w0)
  have s4:=ap ((bE a (k+1) og za) w0)
  have s5:=ap ((bD b.num (aa a) k og zb.1 s4) w0)
  have s6:=ap ((bE a (k+1) og za) w0)
  have s7:=ap ((bE b (k+1) og zb) w0)
  have s8:=ap ((bD (aa a) (aa b) k og s6 s7) w0)
  have hd:aX a b=((ae a.num (aa b)),(ae b.num (aa a)),(ae (aa a) (aa b))):=pt
  refine gz h <| (dr1 (H:=[⟨.blk b5 (cI (⟨false,0⟩:GI)) 27,[(17,.con (.blk b5 (cI (ae (aa a) (aa b))) 27))]⟩,⟨.blk b4 (cI (⟨false,0⟩:GI)) 27,[(16,.con (.blk b4 (cI (ae b.num (aa a))) 27))]⟩,⟨.blk b3 (cI (⟨false,0⟩:GI)) 27,[(15,.con (.blk b3 (cI (ae a.num (aa b))) 27))]⟩,⟨_,[]⟩,⟨_,[]⟩]) (hob:=(oK (bE b (k+1) og zb)) <| (oK (bD a.num (aa b) k og za.1 s2)) <| (oK (bE a (k+1) og za)) <| (oK (bD b.num (aa a) k og zb.1 s4)) <| (oK (bE a (k+1) og za)) <| (oK (bE b (k+1) og zb)) <| (oK (bD (aa a) (aa b) k og s6 s7)) <| oE)) <| (W) ?_; clear h ac wo; intro ac wo h
  exact ret h rfl (.cell (v:=(vI (ae a.num (aa b)))) rfl (i:=2) rfl aa27 zz27 rfl rfl rfl (.cell (v:=(vI (ae b.num (aa a)))) rfl (i:=1) rfl aa27 zz27 rfl rfl rfl (.cell (v:=(vI (ae (aa a) (aa b)))) rfl (i:=0) rfl aa27 zz27 rfl rfl rfl .nil))) rfl (h.retP (by rw [hd] <;> rfl) (by rw [hd]; exact ⟨s3,s5,s8⟩))
def aq (a:GQ) (b:GQ):GQ :=
 (ba (aJ ((aX a b).1) ((aX a b).2.1)) ((aX a b).2.2))
theorem bQ (a:GQ) (b:GQ) (k:Nat) (hk:(k+3)≤40) (za:SzQ (k+3) a) (zb:SzQ (k+3) b) (w0:World):Calls Tryz.prog 106 #[(vQ a),(vQ b)] w0 (dE w0 (vQ (aq a b)) (SzQ k (aq a b))):=by
 refine enter (N:=20) (args:=[(vQ a),(vQ b)]) Tryz.func106 rfl rfl ?_; intro ac h
 have c1:=j0 a b (k+2) og za zb
 have s1:=ap (c1 w0)
 have s2:=ap ((eV ((aX a b).1) ((aX a b).2.1) (k+1) og s1.1 s1.2.1) w0)
 have s3:=ap ((ee (aJ ((aX a b).1) ((aX a b).2.1)) ((aX a b).2.2) k og s2 (fA s1.2.2 og)) w0)
 refine gz h <| (xb) fun b1=>(xb) fun b2=>(xa) fun b3=>(xk c1) <| (xa) fun b4=>(xa) fun b5=>(xa) fun b6=>(dr1 (H:=[⟨_,[]⟩,⟨_,[]⟩,⟨_,[]⟩,⟨.blk b3 (cQ oQ) 29,[(5,.con (.blk b3 (cQ (ba (aJ ((aX a b).1) ((aX a b).2.1)) ((aX a b).2.2))) 29))]⟩,⟨_,[]⟩,⟨_,[]⟩]) (hob:=(oK (eV ((aX a b).1) ((aX a b).2.1) (k+1) og s1.1 s1.2.1)) <| (oK (ee (aJ ((aX a b).1) ((aX a b).2.1)) ((aX a b).2.2) k og s2 (fA s1.2.2 og))) <| oE)) <| (W) ?_; clear h ac; intro ac wo h
 exact ret h rfl (.cell (v:=(vQ (ba (aJ ((aX a b).1) ((aX a b).2.1)) ((aX a b).2.2)))) rfl (i:=3) rfl aa29 zz29 rfl rfl rfl .nil) rfl (h.retP (by unfold aq; rfl) (by unfold aq; exact s3))
def aE (a:GQ):GQ :=
 (⟨(az a.num),a.den⟩:GQ)
theorem fc (a:GQ) (k:Nat) (hk:k≤40) (za:SzQ k a) (w0:World):Calls Tryz.prog 170 #[(vQ a)] w0 (dE w0 (vQ (aE a)) (SzQ k (aE a))):=by
 refine enter (N:=9) (args:=[(vQ a)]) Tryz.func170 rfl rfl ?_; intro ac h
 have s1:=ap ((dV a.num k og za.1) w0)
 refine gz h <| (xb) fun b1=>(xa) fun b2=>(dr1 (H:=[⟨.blk b2 (cQ oQ) 29,[(6,.con (.blk b2 (cQ (⟨(az a.num),a.den⟩:GQ)) 29))]⟩,⟨_,[]⟩]) (hob:=(oK (dV a.num k og za.1)) <| (oX (h:=by exact fun _=>aQ (bK nv exs rfl (v:=(vQ (⟨(az a.num),a.den⟩:GQ))) rfl))) <| oE)) <| (W) ?_; clear h ac; intro ac wo h
 exact ret h rfl (.cell (v:=(vQ (⟨(az a.num),a.den⟩:GQ))) rfl (i:=0) rfl aa29 zz29 rfl rfl rfl .nil) rfl (h.retP (by unfold aE; rfl) (by unfold aE; exact ⟨s1,za.2⟩))
def ak (a:GQ) (b:GQ):GQ :=
 (aq a (aE b))
theorem cM (a:GQ) (b:GQ) (k:Nat) (hk:(k+3)≤40) (za:SzQ (k+3) a) (zb:SzQ (k+3) b) (w0:World):Calls Tryz.prog 148 #[(vQ a),(vQ b)] w0 (dE w0 (vQ (ak a b)) (SzQ k (ak a b))):=by
 refine enter (N:=9) (args:=[(vQ a),(vQ b)]) Tryz.func148 rfl rfl ?_; intro ac h
 have s1:=ap ((fc b (k+3) og zb) w0)
 have s2:=ap ((bQ a (aE b) k og za s1) w0)
 refine gz h <| (xb) fun b1=>(xb) fun b2=>(xa) fun b3=>(dr1 (H:=[⟨.blk b3 (cQ oQ) 29,[(4,.con (.blk b3 (cQ (aq a (aE b))) 29))]⟩,⟨_,[]⟩,⟨_,[]⟩]) (hob:=(oK (fc b (k+3) og zb)) <| (oK (bQ a (aE b) k og za s1)) <| oE)) <| (W) ?_; clear h ac; intro ac wo h
 exact ret h rfl (.cell (v:=(vQ (aq a (aE b)))) rfl (i:=0) rfl aa29 zz29 rfl rfl rfl .nil) rfl (h.retP (by unfold ak; rfl) (by unfold ak; exact s2))
def am (a:GQ) (b:GQ):GQ :=
 (ba (ae a.num b.num) (ae (aa a) (aa b)))
theorem bo (a:GQ) (b:GQ) (k:Nat) (hk:(k+2)≤40) (za:SzQ (k+2) a) (zb:SzQ (k+2) b) (w0:World):Calls Tryz.prog 172 #[(vQ a),(vQ b)] w0 (dE w0 (vQ (am a b)) (SzQ k (am a b))):=by
 refine enter (N:=16) (args:=[(vQ a),(vQ b)]) Tryz.func172 rfl rfl ?_; intro ac h
 have s1:=ap ((bD a.num b.num (k+1) og za.1 zb.1) w0)
 have s2:=ap ((bE a (k+2) og za) w0)
 have s3:=ap ((bE b (k+2) og zb) w0)
 have s4:=ap ((bD (aa a) (aa b) (k+1) og s2 s3) w0)
 have s5:=ap ((ee (ae a.num b.num) (ae (aa a) (aa b)) k og s1 s4) w0)
 refine gz h <| (xb) fun b1=>(xb) fun b2=>(xa) fun b3=>(dr1 (H:=[⟨.blk b3 (cQ oQ) 29,[(11,.con (.blk b3 (cQ (ba (ae a.num b.num) (ae (aa a) (aa b)))) 29))]⟩,⟨_,[]⟩,⟨_,[]⟩]) (hob:=(oK (bD a.num b.num (k+1) og za.1 zb.1)) <| (oK (bE a (k+2) og za)) <| (oK (bE b (k+2) og zb)) <| (oK (bD (aa a) (aa b) (k+1) og s2 s3)) <| (oK (ee (ae a.num b.num) (ae (aa a) (aa b)) k og s1 s4)) <| oE)) <| (W) ?_; clear h ac; intro ac wo h
 exact ret h rfl (.cell (v:=(vQ (ba (ae a.num b.num) (ae (aa a) (aa b))))) rfl (i:=0) rfl aa29 zz29 rfl rfl rfl .nil) rfl (h.retP (by unfold am; rfl) (by unfold am; exact s5))
def au (a:GQ):Int :=
 (cw a.num)
theorem dl (a:GQ) (w0:World):Calls Tryz.prog 123 #[(vQ a)] w0 (dE w0 (.int .i64 (au a)) ((-1≤(au a)∧(au a)≤1))):=by
 refine enter (N:=6) (args:=[(vQ a)]) Tryz.func123 rfl rfl ?_; intro ac h
 have p2:=ap ((d8 a.num) w0)
 refine gz h <| (xb) fun b1=>(xk (d8 a.num)) <| (W) ?_; clear h ac; intro ac wo h
 exact (rt h) (h.retP (by unfold au; rfl) (by unfold au; exact by first | omega | exact fC og og))
def aS (a:GQ) (b:GQ):Int :=
 bif (decide (a=b)) then
  0
 else
  (dx ((aX a b).1) ((aX a b).2.1))
theorem g9 (a:GQ) (b:GQ) (k:Nat) (hk:(k+1)≤40) (za:SzQ (k+1) a) (zb:SzQ (k+1) b) (w0:World):Calls Tryz.prog 204 #[(vQ a),(vQ b)] w0 (dE w0 (.int .i64 (aS a b)) ((-1≤(aS a b)∧(aS a b)≤1))):=by
 refine enter (N:=21) (args:=[(vQ a),(vQ b)]) Tryz.func204 rfl rfl ?_; intro ac h
 refine gz h <| (xb) fun b1=>(xb) fun b2=>(ai) ?_ ?_ <;> clear h ac <;> intro ac wo h hc1
 ·
  have hd1:=of_decide_eq_true hc1
  have hd:aS a b=0:=pt
  refine gz h <| (W) ?_; clear h ac wo; intro ac wo h
  exact (rt h) (h.retP (by rw [hd] <;> rfl) (by rw [hd]; exact by first | omega | exact fC og og))
 ·
  have hd1:=of_decide_eq_false hc1
  have c1:=j0 a b k og za zb
  have s1:=ap (c1 w0)
  have p3:=ap ((gu ((aX a b).1) ((aX a b).2.1) k og s1.1 s1.2.1) w0)
  have hd:aS a b=(dx ((aX a b).1) ((aX a b).2.1)):=pt
  refine gz h <| (xk c1) <| (xa) fun b3=>(xa) fun b4=>(xa) fun b5=>(xk (gu ((aX a b).1) ((aX a b).2.1) k og s1.1 s1.2.1)) <| (W) ?_; clear h ac wo; intro ac wo h
  exact (rt h) (h.retP (by rw [hd] <;> rfl) (by rw [hd]; exact by first | omega | exact fC og og))
def ax (c:GQ):Qd :=
 (⟨c,(⟨(⟨false,0⟩:GI),(⟨false,0⟩:GI)⟩:GQ),(⟨(⟨false,0⟩:GI),(⟨false,0⟩:GI)⟩:GQ)⟩:Qd)
theorem kO (c:GQ) (k:Nat) (hk:k≤40) (zc:SzQ k c) (w0:World):Calls Tryz.prog 157 #[(vQ c)] w0 (dE w0 (vD (ax c)) (SzD k (ax c))):=by
 refine enter (N:=5) (args:=[(vQ c)]) Tryz.func157 rfl rfl ?_; intro ac h
 refine gz h <| (xb) fun b1=>(xa) fun b2=>(xo (hs:=by exact bK w9 exs rfl (v:=(vD (⟨c,oQ,oQ⟩:Qd))) rfl)) <| (W) ?_; clear h ac; intro ac wo h
 exact ret h rfl (.cell (v:=(vD (⟨c,oQ,oQ⟩:Qd))) rfl (i:=0) rfl Tryz.isAgg72 Tryz.sizeOf72 rfl rfl rfl .nil) rfl (h.retP (by unfold ax; rfl) (by unfold ax; exact ⟨zc,⟨(cX 0 (by decide) og),(cX 0 (by decide) og)⟩,⟨(cX 0 (by decide) og),(cX 0 (by decide) og)⟩⟩))
end Go.Sx
