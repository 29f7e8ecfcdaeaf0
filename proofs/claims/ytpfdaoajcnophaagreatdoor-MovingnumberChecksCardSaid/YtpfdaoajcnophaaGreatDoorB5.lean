/- A part of the proof of movingnumberChecks. -/
import Derived.Test.YtpfdaoajcnophaaGreatDoorProg
import Derived.Test.YtpfdaoajcnophaaGreatDoorB4
set_option linter.unusedVariables false
set_option linter.unusedSimpArgs false
open Go.Proofs.Tryz renaming isAgg4 → aa4, underlying4 → nn4, isAgg9 → aa9, isAgg27 → aa27, sizeOf27 → zz27, isAgg29 → aa29, sizeOf29 → zz29
namespace Go.Sx
open Go Go.RowKit Go.Proofs
set_option maxRecDepth 100000
set_option maxHeartbeats 40000000
attribute [local irreducible] Code.wp wpList Rd Step ObS Ent
theorem eqi25:EqIn Tryz.prog 2 27 vI:=eqS (c:=cI) (fun _=>rfl) Tryz.underlying27 Tryz.stoodInHeld27 fun d x y w hd=>by
 refine Eq.trans (eqF (by decide) (e6 aa4 rfl w) (e6 aa4 rfl w) (eqB nn4 d og _ _ w) (eqF (by decide) (e6 aa9 rfl w) (e6 aa9 rfl w) (eqBs Tryz.underlying9 d og _ _ w) wY)) ?_
 congr 1
 rw [decide_eq_decide]
 cases x; cases y; simp
theorem eqp25:EqP Tryz.prog 27 vI:=EqIn.p (k:=2) rfl (c:=fun x=>(cI x).toArray) (fun _=>rfl) Tryz.eqGuardType27 eqi25
instance yB5_1:Ep Tryz.prog 27 GI inferInstance vI:=⟨eqp25⟩
theorem wX:EqIn Tryz.prog 3 29 vQ:=eqS (c:=cQ) (fun _=>rfl) Tryz.underlying29 Tryz.stoodInHeld29 fun d x y w hd=>by
 refine Eq.trans (eqF (by decide) (bY aa27 zz27 (v:=vI (x.num)) rfl w) (bY aa27 zz27 (v:=vI (y.num)) rfl w) (eqi25 d _ _ w og) (eqF (by decide) (bY aa27 zz27 (v:=vI (x.den)) rfl w) (bY aa27 zz27 (v:=vI (y.den)) rfl w) (eqi25 d _ _ w og) wY)) ?_
 congr 1
 rw [decide_eq_decide]
 cases x; cases y; simp
theorem eqp27:EqP Tryz.prog 29 vQ:=EqIn.p (k:=3) rfl (c:=fun x=>(cQ x).toArray) (fun _=>rfl) Tryz.eqGuardType29 wX
instance yB5_2:Ep Tryz.prog 29 GQ inferInstance vQ:=⟨eqp27⟩
theorem eqi53:EqIn Tryz.prog 4 72 vD:=eqS (c:=cD) (fun _=>rfl) Tryz.underlying72 Tryz.stoodInHeld72 fun d x y w hd=>by
 refine Eq.trans (eqF (by decide) (bY aa29 zz29 (v:=vQ (x.c0)) rfl w) (bY aa29 zz29 (v:=vQ (y.c0)) rfl w) (wX d _ _ w og) (eqF (by decide) (bY aa29 zz29 (v:=vQ (x.c1)) rfl w) (bY aa29 zz29 (v:=vQ (y.c1)) rfl w) (wX d _ _ w og) (eqF (by decide) (bY aa29 zz29 (v:=vQ (x.c2)) rfl w) (bY aa29 zz29 (v:=vQ (y.c2)) rfl w) (wX d _ _ w og) wY))) ?_
 congr 1
 rw [decide_eq_decide]
 cases x; cases y; simp
theorem eqp53:EqP Tryz.prog 72 vD:=EqIn.p (k:=4) rfl (c:=fun x=>(cD x).toArray) (fun _=>rfl) Tryz.eqGuardType72 eqi53
instance yB5_3:Ep Tryz.prog 72 Qd inferInstance vD:=⟨eqp53⟩
theorem zw:EqIn Tryz.prog 4 46 vR:=eqS (c:=cR) (fun _=>rfl) Tryz.underlying46 Tryz.stoodInHeld46 fun d x y w hd=>by
 refine Eq.trans (eqF (by decide) (bY aa29 zz29 (v:=vQ (x.p)) rfl w) (bY aa29 zz29 (v:=vQ (y.p)) rfl w) (wX d _ _ w og) (eqF (by decide) (bY aa29 zz29 (v:=vQ (x.r)) rfl w) (bY aa29 zz29 (v:=vQ (y.r)) rfl w) (wX d _ _ w og) (eqF (by decide) (e6 aa4 rfl w) (e6 aa4 rfl w) (eqB nn4 d og _ _ w) wY))) ?_
 congr 1
 rw [decide_eq_decide]
 cases x; cases y; simp
theorem eqp71:EqP Tryz.prog 46 vR:=EqIn.p (k:=4) rfl (c:=fun x=>(cR x).toArray) (fun _=>rfl) Tryz.eqGuardType46 zw
instance yB5_4:Ep Tryz.prog 46 GR inferInstance vR:=⟨eqp71⟩
def cM (a:GI):Int :=
 bif (decide (a.mag=0)) then
  0
 else
  bif a.neg then
   (-1)
  else
   1
theorem dK (a:GI) (w0:World):Calls Tryz.prog 197 #[(vI a)] w0 (dh w0 (.int .i64 (cM a)) ((-1≤(cM a)∧(cM a)≤1))):=by
 refine enter (N:=10) (args:=[(vI a)]) Tryz.func197 rfl rfl ?_; intro ac h
 refine gz h <| (xb) fun b1=>(ai) ?_ ?_ <;> clear h ac <;> intro ac wo h hc1
 ·
  have hd1:=of_decide_eq_true hc1
  have hd:cM a=0:=pt
  refine gz h <| (W) ?_; clear h ac wo; intro ac wo h
  exact (rt h) (h.retP (by rw [hd] <;> rfl) (by rw [hd]; exact by first | omega | exact fQ og og))
 ·
  have hd1:=of_decide_eq_false hc1
  refine gz h <| (ai) ?_ ?_ <;> clear h ac wo <;> intro ac wo h hc2
  ·
   have hd:cM a=(-1):=pt
   refine gz h <| (W) ?_; clear h ac wo; intro ac wo h
   exact (rt h) (h.retP (by rw [hd] <;> rfl) (by rw [hd]; exact by first | omega | exact fQ og og))
  ·
   have hd:cM a=1:=pt
   refine gz h <| (W) ?_; clear h ac wo; intro ac wo h
   exact (rt h) (h.retP (by rw [hd] <;> rfl) (by rw [hd]; exact by first | omega | exact fQ og og))
def ax (a:GI):GI :=
 (aD (!a.neg) a.mag)
theorem fk (a:GI) (k:Nat) (hk:k≤40) (za:SzI k a) (w0:World):Calls Tryz.prog 226 #[(vI a)] w0 (dh w0 (vI (ax a)) (SzI k (ax a))):=by
 refine enter (N:=9) (args:=[(vI a)]) Tryz.func226 rfl rfl ?_; intro ac h
 have c1:=cu (!a.neg) a.mag k og za
 have s1:=ar (c1 w0)
 refine gz h <| (xb) fun b1=>(xa) fun b2=>(xk c1) <| (W) ?_; clear h ac; intro ac wo h
 exact ret h rfl (.cell (v:=(vI (aD (!a.neg) a.mag))) rfl (i:=0) rfl aa27 zz27 rfl rfl rfl .nil) rfl (h.retP (by unfold ax; rfl) (by unfold ax; exact s1))
def dC (a:GI) (b:GI):Int :=
 bif (a.neg != b.neg) then
  (bN (cM a) (cM b))
 else
  bif a.neg then
   -(bn a.mag b.mag)
  else
   (bn a.mag b.mag)
theorem gY (a:GI) (b:GI) (k:Nat) (hk:k≤40) (za:SzI k a) (zb:SzI k b) (w0:World):Calls Tryz.prog 95 #[(vI a),(vI b)] w0 (dh w0 (.int .i64 (dC a b)) ((-1≤(dC a b)∧(dC a b)≤1))):=by
 refine enter (N:=26) (args:=[(vI a),(vI b)]) Tryz.func95 rfl rfl ?_; intro ac h
 refine gz h <| (xb) fun b1=>(xb) fun b2=>(xo (hs:=by exact sU nn4 rfl rfl)) <| (ai) ?_ ?_ <;> clear h ac <;> intro ac wo h hc1
 ·
  refine gz h <| (W) ?_; clear h ac wo; intro ac wo h
  have p2:=ar ((dK a) w0)
  have p4:=ar ((dK b) w0)
  have p6:=ar ((kW (cM a) (cM b)) w0)
  have hd:dC a b=(bN (cM a) (cM b)):=pt
  refine gz h <| (dr0 (hob:=(oK (dK a)) <| (oK (dK b)) <| (oK (kW (cM a) (cM b))) <| oE)) <| (W) ?_; clear h ac wo; intro ac wo h
  exact (rt h) (h.retP (by rw [hd] <;> rfl) (by rw [hd]; exact by first | omega | exact fQ og og))
 ·
  have p8:=ar ((eQ a.mag b.mag) w0)
  refine gz h <| (xk (eQ a.mag b.mag)) <| (ai) ?_ ?_ <;> clear h ac wo <;> intro ac wo h hc2
  ·
   have hd:dC a b=-(bn a.mag b.mag):=pt
   refine gz h <| (xo (hs:=by exact r_neg rfl (r:=-(bn a.mag b.mag)) (by rw [IntKind.wrap_i64]; omega))) <| (W) ?_; clear h ac wo; intro ac wo h
   exact (rt h) (h.retP (by rw [hd] <;> rfl) (by rw [hd]; exact by first | omega | exact fQ og og))
  ·
   have hd:dC a b=(bn a.mag b.mag):=pt
   refine gz h <| (W) ?_; clear h ac wo; intro ac wo h
   exact (rt h) (h.retP (by rw [hd] <;> rfl) (by rw [hd]; exact by first | omega | exact fQ og og))
def aH (a:GI) (b:GI):GI :=
 bif (a.neg == b.neg) then
  (aD a.neg (dX a.mag b.mag))
 else
  bif (decide ((bn a.mag b.mag)≥0)) then
   (aD a.neg (dx a.mag b.mag))
  else
   (aD b.neg (dx b.mag a.mag))
theorem fJ (a:GI) (b:GI) (k:Nat) (hk:(k+1)≤40) (za:SzI (k+1) a) (zb:SzI (k+1) b) (w0:World):Calls Tryz.prog 210 #[(vI a),(vI b)] w0 (dh w0 (vI (aH a b)) (SzI k (aH a b))):=by
 refine enter (N:=42) (args:=[(vI a),(vI b)]) Tryz.func210 rfl rfl ?_; intro ac h
 refine gz h <| (xb) fun b1=>(xb) fun b2=>(xa) fun b3=>(xo (hs:=by exact yo nn4 rfl rfl)) <| (ai) ?_ ?_ <;> clear h ac <;> intro ac wo h hc1
 ·
  have hd1:=eq_of_beq hc1
  refine gz h <| (W) ?_; clear h ac wo; intro ac wo h
  have s1:=ar ((iE a.mag b.mag k og za zb) w0)
  have s2:=ar ((cu a.neg (dX a.mag b.mag) k og s1) w0)
  have hd:aH a b=(aD a.neg (dX a.mag b.mag)):=pt
  refine gz h <| (dr1 (H:=[⟨.blk b3 (cI (⟨false,0⟩:GI)) 27,[(8,.con (.blk b3 (cI (aD a.neg (dX a.mag b.mag))) 27))]⟩,⟨_,[]⟩,⟨_,[]⟩]) (hob:=(oK (iE a.mag b.mag k og za zb)) <| (oK (cu a.neg (dX a.mag b.mag) k og s1)) <| oE)) <| (W) ?_; clear h ac wo; intro ac wo h
  exact ret h rfl (.cell (v:=(vI (aD a.neg (dX a.mag b.mag)))) rfl (i:=0) rfl aa27 zz27 rfl rfl rfl .nil) rfl (h.retP (by rw [hd] <;> rfl) (by rw [hd]; exact s2))
 ·
  have hd1:=ne_of_beq_false hc1
  have p4:=ar ((eQ a.mag b.mag) w0)
  refine gz h <| (xk (eQ a.mag b.mag)) <| (ai) ?_ ?_ <;> clear h ac wo <;> intro ac wo h hc2
  ·
   have hd2:=of_decide_eq_true hc2
   refine gz h <| (W) ?_; clear h ac wo; intro ac wo h
   have s5:=ar ((gJ a.mag b.mag (k+1) og za zb (by first | exact tX ‹_› | exact tW ‹_›)) w0)
   have s6:=ar ((cu a.neg (dx a.mag b.mag) (k+1) og s5) w0)
   have hd:aH a b=(aD a.neg (dx a.mag b.mag)):=pt
   refine gz h <| (dr1 (H:=[⟨.blk b3 (cI (⟨false,0⟩:GI)) 27,[(8,.con (.blk b3 (cI (aD a.neg (dx a.mag b.mag))) 27))]⟩,⟨_,[]⟩,⟨_,[]⟩]) (hob:=(oK (gJ a.mag b.mag (k+1) og za zb (by first | exact tX ‹_› | exact tW ‹_›))) <| (oK (cu a.neg (dx a.mag b.mag) (k+1) og s5)) <| oE)) <| (W) ?_; clear h ac wo; intro ac wo h
   exact ret h rfl (.cell (v:=(vI (aD a.neg (dx a.mag b.mag)))) rfl (i:=0) rfl aa27 zz27 rfl rfl rfl .nil) rfl (h.retP (by rw [hd] <;> rfl) (by rw [hd]; exact (fV s6 og)))
  ·
   have hd2:=of_decide_eq_false hc2
   refine gz h <| (W) ?_; clear h ac wo; intro ac wo h
   have s7:=ar ((gJ b.mag a.mag (k+1) og zb za (by first | exact tX ‹_› | exact tW ‹_›)) w0)
   have s8:=ar ((cu b.neg (dx b.mag a.mag) (k+1) og s7) w0)
   have hd:aH a b=(aD b.neg (dx b.mag a.mag)):=pt
   refine gz h <| (dr1 (H:=[⟨.blk b3 (cI (⟨false,0⟩:GI)) 27,[(8,.con (.blk b3 (cI (aD b.neg (dx b.mag a.mag))) 27))]⟩,⟨_,[]⟩,⟨_,[]⟩]) (hob:=(oK (gJ b.mag a.mag (k+1) og zb za (by first | exact tX ‹_› | exact tW ‹_›))) <| (oK (cu b.neg (dx b.mag a.mag) (k+1) og s7)) <| oE)) <| (W) ?_; clear h ac wo; intro ac wo h
   exact ret h rfl (.cell (v:=(vI (aD b.neg (dx b.mag a.mag)))) rfl (i:=0) rfl aa27 zz27 rfl rfl rfl .nil) rfl (h.retP (by rw [hd] <;> rfl) (by rw [hd]; exact (fV s8 og)))
def ab (a:GI) (b:GI):GI :=
 (aD (a.neg != b.neg) (ee a.mag b.mag))
theorem bU (a:GI) (b:GI) (k:Nat) (hk:(k+1)≤40) (za:SzI (k+1) a) (zb:SzI (k+1) b) (w0:World):Calls Tryz.prog 223 #[(vI a),(vI b)] w0 (dh w0 (vI (ab a b)) (SzI k (ab a b))):=by
 refine enter (N:=16) (args:=[(vI a),(vI b)]) Tryz.func223 rfl rfl ?_; intro ac h
 have s1:=ar ((km a.mag b.mag k og za zb) w0)
 have s2:=ar ((cu (a.neg != b.neg) (ee a.mag b.mag) k og s1) w0)
 refine gz h <| (xb) fun b1=>(xb) fun b2=>(xa) fun b3=>(dr1 (H:=[⟨.blk b3 (cI (⟨false,0⟩:GI)) 27,[(11,.con (.blk b3 (cI (aD (a.neg != b.neg) (ee a.mag b.mag))) 27))]⟩,⟨_,[]⟩,⟨_,[]⟩]) (hob:=(oX (h:=by exact fun _=>bk (sU nn4 rfl rfl))) <| (oK (km a.mag b.mag k og za zb)) <| (oK (cu (a.neg != b.neg) (ee a.mag b.mag) k og s1)) <| oE)) <| (W) ?_; clear h ac; intro ac wo h
 exact ret h rfl (.cell (v:=(vI (aD (a.neg != b.neg) (ee a.mag b.mag)))) rfl (i:=0) rfl aa27 zz27 rfl rfl rfl .nil) rfl (h.retP (by unfold ab; rfl) (by unfold ab; exact s2))
def aT (a b:GI):GI:=aD false (Nat.gcd a.mag b.mag)
theorem vJ (x y:Nat):Nat.gcd y (x % y)=Nat.gcd x y:=by rw [Nat.gcd_comm x y,Nat.gcd_rec y x,Nat.gcd_comm]
theorem js (a:GI) (b:GI) (k:Nat) (hk:k≤40) (za:SzI k a) (zb:SzI k b) (w0:World):Calls Tryz.prog 97 #[(vI a),(vI b)] w0 (dh w0 (vI (aT a b)) (SzI k (aT a b))):=by
 refine enter (N:=45) (args:=[(vI a),(vI b)]) Tryz.func97 rfl rfl ?_; intro ac h
 refine gz h <| (xb) fun b1=>(xb) fun b2=>(xa) fun b3=>(dr0 (hob:=oE)) <| (W) ?_; clear h ac; intro ac wo h
 refine wp_loop_ghost (fun n_ a_ w_=>∃ (x:Nat) (y:Nat),n_=1*y∧(Nat.gcd x y=Nat.gcd a.mag b.mag)∧(SzB k x)∧(SzB k y)∧St w0 45 [(4,(ptr b3 0)),(5,(.string (bs x))),(6,(.string (bs y)))] [.blk b3 (cI (⟨false,0⟩:GI)) 27,.blk b2 (cI b) 27,.blk b1 (cI a) 27] a_ w_) _ ⟨a.mag,b.mag,rfl,rfl,za,zb,h.re [0,1,2]⟩ ?_
 clear h ac wo; rintro _ ac wo ⟨x,y,rfl,hg,zx,zy,h⟩
 refine gz h <| (ai) ?_ ?_ <;> clear h ac wo <;> intro ac wo h hc1
 ·
  have hy:y≠0:=by simpa using hc1
  refine gz h <| (xk (gG x y)) <| (ai) ?_ ?_ <;> clear h ac wo <;> intro ac wo h hc2
  ·
   obtain ⟨ha6,hb6,hw⟩:=lG hc2
   simp only [hw] at h
   refine gz h <| (W) ?_; clear h ac wo; intro ac wo h
   refine wp_loop_ghost (fun n_ a_ w_=>∃ (u:Nat) (v:Nat),n_=1*v∧(Nat.gcd u v=Nat.gcd a.mag b.mag)∧(SzB k u)∧(SzB k v)∧(u < 18446744073709551616∧v < 18446744073709551616)∧St w0 45 [(4,(ptr b3 0)),(7,(.int .u64 ((u:Nat):Int))),(8,(.int .u64 ((v:Nat):Int)))] [.blk b3 (cI (⟨false,0⟩:GI)) 27,.blk b2 (cI b) 27,.blk b1 (cI a) 27] a_ w_) _ ⟨x,y,rfl,hg,zx,zy,⟨ha6,hb6⟩,h.re [0,1,2]⟩ ?_
   clear h ac wo; rintro _ ac wo ⟨u,v,rfl,hgu,zu,zv,hul,h⟩
   refine gz h <| (ai) ?_ ?_ <;> clear h ac wo <;> intro ac wo h hc3
   ·
    have hv:v≠0:=by have:=hc3; simp at this; omega
    refine gz h <| (dr0 (hob:=(oX (h:=by exact fun _=>bk (ru rfl rfl (r:=((u % v:Nat):Int)) og (by rw [Int.tmod_eq_emod_of_nonneg og]; rfl)))) <| oE)) <| (W) ?_; clear h ac wo; intro ac wo h
    exact az ⟨_,(by have:=Nat.mod_lt u (show v>0 by omega); omega),v,(u % v),rfl,(by rw [vJ]; exact hgu),zv,(ip zu (Nat.mod_le _ _)),⟨hul.2,by have:=Nat.mod_lt u (show v>0 by omega); omega⟩,h.re [0,1,2]⟩
   ·
    have hv:v=0:=by have:=hc3; simp at this; omega
    subst hv
    have c1:=cu false (bK u) k og zu
    have s1:=ar (c1 w0)
    have hd:aT a b=(aD false (bK u)):=(by rw [Nat.gcd_zero_right] at hgu; unfold aT; rw [← hgu]; rfl)
    refine gz h <| (xk (dz u hul.1)) <| (xk c1) <| (W) ?_; clear h ac wo; intro ac wo h
    exact ret h rfl (.cell (v:=(vI (aD false (bK u)))) rfl (i:=0) rfl aa27 zz27 rfl rfl rfl .nil) rfl (h.retP (by rw [hd] <;> rfl) (by rw [hd]; exact s1))
  ·
   have c2:=jq x y k og zx zy og
   have s2:=ar (c2 w0)
   refine gz h <| (xk c2) <| (W) ?_; clear h ac wo; intro ac wo h
   exact az ⟨_,(by have:=Nat.mod_lt x (show y>0 by omega); omega),y,(x % y),rfl,(by rw [vJ]; exact hg),zy,(ip zx (Nat.mod_le _ _)),h.re [0,1,2]⟩
 ·
  have hy:y=0:=by simpa using hc1
  subst hy
  have c3:=cu false x k og zx
  have s3:=ar (c3 w0)
  have hd:aT a b=(aD false x):=(by rw [Nat.gcd_zero_right] at hg; unfold aT; rw [← hg])
  refine gz h <| (xk c3) <| (W) ?_; clear h ac wo; intro ac wo h
  exact ret h rfl (.cell (v:=(vI (aD false x))) rfl (i:=0) rfl aa27 zz27 rfl rfl rfl .nil) rfl (h.retP (by rw [hd] <;> rfl) (by rw [hd]; exact s3))
def aK (a:GI) (b:GI):GI×GI×Int :=
 bif (decide (b.mag=0)) then
  ((⟨false,0⟩:GI),(⟨false,0⟩:GI),6)
 else
  bif (a.neg && (!(decide (((bH a.mag b.mag).2)=0)))) then
   ((aD (a.neg != b.neg) (dX ((bH a.mag b.mag).1) 1)),(aD false (dx b.mag ((bH a.mag b.mag).2))),0)
  else
   ((aD (a.neg != b.neg) ((bH a.mag b.mag).1)),(aD false ((bH a.mag b.mag).2)),0)
theorem gj (a:GI) (b:GI) (k:Nat) (hk:(k+1)≤40) (za:SzI (k+1) a) (zb:SzI (k+1) b) (w0:World):Calls Tryz.prog 225 #[(vI a),(vI b)] w0 (dh w0 (.tuple #[(vI ((aK a b).1)),(vI ((aK a b).2.1)),(.int .i64 ((aK a b).2.2))]) (SzI k ((aK a b).1)∧SzI k ((aK a b).2.1))):=by
 refine enter (N:=43) (args:=[(vI a),(vI b)]) Tryz.func225 rfl rfl ?_; intro ac h
 refine gz h <| (xb) fun b1=>(xb) fun b2=>(xa) fun b3=>(xa) fun b4=>(ai) ?_ ?_ <;> clear h ac <;> intro ac wo h hc1
 ·
  have hd1:=of_decide_eq_true hc1
  have hd:aK a b=((⟨false,0⟩:GI),(⟨false,0⟩:GI),6):=pt
  refine gz h <| (xo (hs:=by exact bX qo exs rfl (v:=(vI (⟨false,0⟩:GI))) rfl)) <| (xo (hs:=by exact bX qo exs rfl (v:=(vI (⟨false,0⟩:GI))) rfl)) <| (W) ?_; clear h ac wo; intro ac wo h
  exact ret h rfl (.cell (v:=(vI (⟨false,0⟩:GI))) rfl (i:=1) rfl aa27 zz27 rfl rfl rfl (.cell (v:=(vI (⟨false,0⟩:GI))) rfl (i:=0) rfl aa27 zz27 rfl rfl rfl (.tmp rfl .nil))) rfl (h.retP (by rw [hd] <;> rfl) (by rw [hd]; exact ⟨(ed 0 (by decide) og),(ed 0 (by decide) og)⟩))
 ·
  have hd1:=of_decide_eq_false hc1
  have c1:=jq a.mag b.mag (k+1) og za zb og
  have s1:=ar (c1 w0)
  refine gz h <| (xk c1) <| (ai) ?_ ?_ <;> clear h ac wo <;> intro ac wo h hc2
  ·
   have s2:=ar ((iE ((bH a.mag b.mag).1) 1 k og s1.1 (ed 1 (by decide) og)) w0)
   have s3:=ar ((gJ b.mag ((bH a.mag b.mag).2) (k+1) og zb s1.2 (Nat.le_of_lt (Nat.mod_lt _ og))) w0)
   refine gz h <| (dr0 (hob:=(oK (iE ((bH a.mag b.mag).1) 1 k og s1.1 (ed 1 (by decide) og))) <| (oK (gJ b.mag ((bH a.mag b.mag).2) (k+1) og zb s1.2 (Nat.le_of_lt (Nat.mod_lt _ og)))) <| oE)) <| (W) ?_; clear h ac wo; intro ac wo h
   have c4:=cu (a.neg != b.neg) (dX ((bH a.mag b.mag).1) 1) k og s2
   have s4:=ar (c4 w0)
   have c5:=cu false (dx b.mag ((bH a.mag b.mag).2)) (k+1) og s3
   have s5:=ar (c5 w0)
   have hd:aK a b=((aD (a.neg != b.neg) (dX ((bH a.mag b.mag).1) 1)),(aD false (dx b.mag ((bH a.mag b.mag).2))),0):=pt
   refine gz h <| (xo (hs:=by exact sU nn4 rfl rfl)) <| (xk c4) <| (xk c5) <| (W) ?_; clear h ac wo; intro ac wo h
   exact ret h rfl (.cell (v:=(vI (aD (a.neg != b.neg) (dX ((bH a.mag b.mag).1) 1)))) rfl (i:=1) rfl aa27 zz27 rfl rfl rfl (.cell (v:=(vI (aD false (dx b.mag ((bH a.mag b.mag).2))))) rfl (i:=0) rfl aa27 zz27 rfl rfl rfl (.tmp rfl .nil))) rfl (h.retP (by rw [hd] <;> rfl) (by rw [hd]; exact ⟨s4,(fV s5 og)⟩))
  ·
   have c6:=cu (a.neg != b.neg) ((bH a.mag b.mag).1) (k+1) og s1.1
   have s6:=ar (c6 w0)
   have c7:=cu false ((bH a.mag b.mag).2) (k+1) og s1.2
   have s7:=ar (c7 w0)
   have hd:aK a b=((aD (a.neg != b.neg) ((bH a.mag b.mag).1)),(aD false ((bH a.mag b.mag).2)),0):=pt
   refine gz h <| (xo (hs:=by exact sU nn4 rfl rfl)) <| (xk c6) <| (xk c7) <| (W) ?_; clear h ac wo; intro ac wo h
   exact ret h rfl (.cell (v:=(vI (aD (a.neg != b.neg) ((bH a.mag b.mag).1)))) rfl (i:=1) rfl aa27 zz27 rfl rfl rfl (.cell (v:=(vI (aD false ((bH a.mag b.mag).2)))) rfl (i:=0) rfl aa27 zz27 rfl rfl rfl (.tmp rfl .nil))) rfl (h.retP (by rw [hd] <;> rfl) (by rw [hd]; exact ⟨(fV s6 og),(fV s7 og)⟩))
def rational_one :GI :=
 (aw 1)
theorem fu (k:Nat) (hk:k≤40) (w0:World):Calls Tryz.prog 96 #[] w0 (dh w0 (vI rational_one) (SzI k rational_one)):=by
 refine enter (N:=2) (args:=[]) Tryz.func96 rfl rfl ?_; intro ac h
 have c1:=eR 1 k og  og
 have s1:=ar (c1 w0)
 refine gz h <| (xa) fun b1=>(xk c1) <| (W) ?_; clear h ac; intro ac wo h
 exact ret h rfl (.cell (v:=(vI (aw 1))) rfl (i:=0) rfl aa27 zz27 rfl rfl rfl .nil) rfl (h.retP (by unfold rational_one; rfl) (by unfold rational_one; exact s1))
def ak (n:Int):GQ :=
 (⟨(aw n),(⟨false,0⟩:GI)⟩:GQ)
theorem fi (n:Int) (k:Nat) (hk:k≤40) (hn:-9223372036854775808≤n∧n≤9223372036854775807) (w0:World):Calls Tryz.prog 101 #[(.int .i64 n)] w0 (dh w0 (vQ (ak n)) (SzQ k (ak n))):=by
 refine enter (N:=6) (args:=[(.int .i64 n)]) Tryz.func101 rfl rfl ?_; intro ac h
 have c1:=eR n k og  og
 have s1:=ar (c1 w0)
 refine gz h <| (xa) fun b1=>(xk c1) <| (xo (hs:=by exact bX mR exs rfl (v:=(vQ (⟨(aw n),(⟨false,0⟩:GI)⟩:GQ))) rfl)) <| (W) ?_; clear h ac; intro ac wo h
 exact ret h rfl (.cell (v:=(vQ (⟨(aw n),(⟨false,0⟩:GI)⟩:GQ))) rfl (i:=0) rfl aa29 zz29 rfl rfl rfl .nil) rfl (h.retP (by unfold ak; rfl) (by unfold ak; exact ⟨s1,(ed 0 (by decide) og)⟩))
def aa (a:GQ):GI :=
 bif (decide (a.den=(⟨false,0⟩:GI))) then
  rational_one
 else
  a.den
theorem bJ (a:GQ) (k:Nat) (hk:k≤40) (za:SzQ k a) (w0:World):Calls Tryz.prog 221 #[(vQ a)] w0 (dh w0 (vI (aa a)) (SzI k (aa a))):=by
 refine enter (N:=10) (args:=[(vQ a)]) Tryz.func221 rfl rfl ?_; intro ac h
 refine gz h <| (xb) fun b1=>(xa) fun b2=>(xo (hs:=by exact bX qo exs rfl (v:=(vI (⟨false,0⟩:GI))) rfl)) <| (ai) ?_ ?_ <;> clear h ac <;> intro ac wo h hc1
 ·
  have hd1:=of_decide_eq_true hc1
  have c1:=fu  k og
  have s1:=ar (c1 w0)
  have hd:aa a=rational_one:=pt
  refine gz h <| (xk c1) <| (W) ?_; clear h ac wo; intro ac wo h
  exact ret h rfl (.cell (v:=(vI rational_one)) rfl (i:=0) rfl aa27 zz27 rfl rfl rfl .nil) rfl (h.retP (by rw [hd] <;> rfl) (by rw [hd]; exact s1))
 ·
  have hd1:=of_decide_eq_false hc1
  have hd:aa a=a.den:=pt
  refine gz h <| (W) ?_; clear h ac wo; intro ac wo h
  exact ret h rfl (.cell (v:=(vI a.den)) rfl (i:=0) rfl aa27 zz27 rfl rfl rfl .nil) rfl (h.retP (by rw [hd] <;> rfl) (by rw [hd]; exact za.2))
def aG (a:GI) (b:GI):GI :=
 (aK a b).1
theorem dQ (a:GI) (b:GI) (k:Nat) (hk:(k+1)≤40) (za:SzI (k+1) a) (zb:SzI (k+1) b) (w0:World):Calls Tryz.prog 281 #[(vI a),(vI b)] w0 (dh w0 (vI (aG a b)) (SzI k (aG a b))):=by
 refine enter (N:=16) (args:=[(vI a),(vI b)]) Tryz.func281 rfl rfl ?_; intro ac h
 have c1:=gj a b k og za zb
 have s1:=ar (c1 w0)
 refine gz h <| (xb) fun b1=>(xb) fun b2=>(xa) fun b3=>(xk c1) <| (xa) fun b4=>(xa) fun b5=>(W) ?_; clear h ac; intro ac wo h
 exact ret h rfl (.cell (v:=(vI ((aK a b).1))) rfl (i:=2) rfl aa27 zz27 rfl rfl rfl .nil) rfl (h.retP (by unfold aG; rfl) (by unfold aG; exact s1.1))
def aZ (num:GI) (den:GI):GQ :=
 bif (decide ((cM den) < 0)) then
  bif (decide ((aG (ax den) (aT (ax num) (ax den)))=rational_one)) then
   (⟨(aG (ax num) (aT (ax num) (ax den))),(⟨false,0⟩:GI)⟩:GQ)
  else
   (⟨(aG (ax num) (aT (ax num) (ax den))),(aG (ax den) (aT (ax num) (ax den)))⟩:GQ)
 else
  bif (decide ((aG den (aT num den))=rational_one)) then
   (⟨(aG num (aT num den)),(⟨false,0⟩:GI)⟩:GQ)
  else
   (⟨(aG num (aT num den)),(aG den (aT num den))⟩:GQ)
theorem dV (num:GI) (den:GI) (k:Nat) (hk:(k+1)≤40) (znum:SzI (k+1) num) (zden:SzI (k+1) den) (w0:World):Calls Tryz.prog 209 #[(vI num),(vI den)] w0 (dh w0 (vQ (aZ num den)) (SzQ k (aZ num den))):=by
 refine enter (N:=29) (args:=[(vI num),(vI den)]) Tryz.func209 rfl rfl ?_; intro ac h
 have p2:=ar ((dK den) w0)
 refine gz h <| (xb) fun b1=>(xb) fun b2=>(xa) fun b3=>(xk (dK den)) <| (ai) ?_ ?_ <;> clear h ac <;> intro ac wo h hc1
 ·
  have hd1:=of_decide_eq_true hc1
  have s3:=ar ((fk num (k+1) og znum) w0)
  have s4:=ar ((fk den (k+1) og zden) w0)
  refine gz h <| (dr1 (H:=[⟨_,[]⟩,⟨.blk b2 (cI den) 27,[(5,.con (.blk b2 (cI (ax den)) 27))]⟩,⟨.blk b1 (cI num) 27,[(4,.con (.blk b1 (cI (ax num)) 27))]⟩]) (hob:=(oK (fk num (k+1) og znum)) <| (oK (fk den (k+1) og zden)) <| oE)) <| (W) ?_; clear h ac wo; intro ac wo h
  have c5:=js (ax num) (ax den) (k+1) og s3 s4
  have s5:=ar (c5 w0)
  have s6:=ar ((dQ (ax num) (aT (ax num) (ax den)) k og s3 s5) w0)
  have s7:=ar ((dQ (ax den) (aT (ax num) (ax den)) k og s4 s5) w0)
  refine gz h <| (xk c5) <| (xa) fun b4=>(dr1 (H:=[⟨_,[]⟩,⟨_,[]⟩,⟨.blk b2 (cI (ax den)) 27,[(7,.con (.blk b2 (cI (aG (ax den) (aT (ax num) (ax den)))) 27))]⟩,⟨.blk b1 (cI (ax num)) 27,[(6,.con (.blk b1 (cI (aG (ax num) (aT (ax num) (ax den)))) 27))]⟩]) (hob:=(oK (dQ (ax num) (aT (ax num) (ax den)) k og s3 s5)) <| (oK (dQ (ax den) (aT (ax num) (ax den)) k og s4 s5)) <| oE)) <| (W) ?_; clear h ac wo; intro ac wo h
  have s8:=ar ((fu  (k+1) og ) w0)
  refine gz h <| (dr0 (hob:=(oK (fu  (k+1) og )) <| oE)) <| (ai) ?_ ?_ <;> clear h ac wo <;> intro ac wo h hc2
  ·
   have hd2:=of_decide_eq_true hc2
   have hd:aZ num den=(⟨(aG (ax num) (aT (ax num) (ax den))),(⟨false,0⟩:GI)⟩:GQ):=pt
   refine gz h <| (xo (hs:=by exact bX qo exs rfl (v:=(vI (⟨false,0⟩:GI))) rfl)) <| (xo (hs:=by exact bX mR exs rfl (v:=(vQ (⟨(aG (ax num) (aT (ax num) (ax den))),(⟨false,0⟩:GI)⟩:GQ))) rfl)) <| (W) ?_; clear h ac wo; intro ac wo h
   exact ret h rfl (.cell (v:=(vQ (⟨(aG (ax num) (aT (ax num) (ax den))),(⟨false,0⟩:GI)⟩:GQ))) rfl (i:=1) rfl aa29 zz29 rfl rfl rfl .nil) rfl (h.retP (by rw [hd] <;> rfl) (by rw [hd]; exact ⟨s6,(ed 0 (by decide) og)⟩))
  ·
   have hd2:=of_decide_eq_false hc2
   have hd:aZ num den=(⟨(aG (ax num) (aT (ax num) (ax den))),(aG (ax den) (aT (ax num) (ax den)))⟩:GQ):=pt
   refine gz h <| (xo (hs:=by exact bX mR exs rfl (v:=(vQ (⟨(aG (ax num) (aT (ax num) (ax den))),(aG (ax den) (aT (ax num) (ax den)))⟩:GQ))) rfl)) <| (W) ?_; clear h ac wo; intro ac wo h
   exact ret h rfl (.cell (v:=(vQ (⟨(aG (ax num) (aT (ax num) (ax den))),(aG (ax den) (aT (ax num) (ax den)))⟩:GQ))) rfl (i:=1) rfl aa29 zz29 rfl rfl rfl .nil) rfl (h.retP (by rw [hd] <;> rfl) (by rw [hd]; exact ⟨s6,s7⟩))
 ·
  have hd1:=of_decide_eq_false hc1
  have c9:=js num den (k+1) og znum zden
  have s9:=ar (c9 w0)
  have s10:=ar ((dQ num (aT num den) k og znum s9) w0)
  have s11:=ar ((dQ den (aT num den) k og zden s9) w0)
  refine gz h <| (xk c9) <| (xa) fun b5=>(dr1 (H:=[⟨_,[]⟩,⟨_,[]⟩,⟨.blk b2 (cI den) 27,[(7,.con (.blk b2 (cI (aG den (aT num den))) 27))]⟩,⟨.blk b1 (cI num) 27,[(6,.con (.blk b1 (cI (aG num (aT num den))) 27))]⟩]) (hob:=(oK (dQ num (aT num den) k og znum s9)) <| (oK (dQ den (aT num den) k og zden s9)) <| oE)) <| (W) ?_; clear h ac wo; intro ac wo h
  have s12:=ar ((fu  (k+1) og ) w0)
  refine gz h <| (dr0 (hob:=(oK (fu  (k+1) og )) <| oE)) <| (ai) ?_ ?_ <;> clear h ac wo <;> intro ac wo h hc3
  ·
   have hd3:=of_decide_eq_true hc3
   have hd:aZ num den=(⟨(aG num (aT num den)),(⟨false,0⟩:GI)⟩:GQ):=pt
   refine gz h <| (xo (hs:=by exact bX qo exs rfl (v:=(vI (⟨false,0⟩:GI))) rfl)) <| (xo (hs:=by exact bX mR exs rfl (v:=(vQ (⟨(aG num (aT num den)),(⟨false,0⟩:GI)⟩:GQ))) rfl)) <| (W) ?_; clear h ac wo; intro ac wo h
   exact ret h rfl (.cell (v:=(vQ (⟨(aG num (aT num den)),(⟨false,0⟩:GI)⟩:GQ))) rfl (i:=1) rfl aa29 zz29 rfl rfl rfl .nil) rfl (h.retP (by rw [hd] <;> rfl) (by rw [hd]; exact ⟨s10,(ed 0 (by decide) og)⟩))
  ·
   have hd3:=of_decide_eq_false hc3
   have hd:aZ num den=(⟨(aG num (aT num den)),(aG den (aT num den))⟩:GQ):=pt
   refine gz h <| (xo (hs:=by exact bX mR exs rfl (v:=(vQ (⟨(aG num (aT num den)),(aG den (aT num den))⟩:GQ))) rfl)) <| (W) ?_; clear h ac wo; intro ac wo h
   exact ret h rfl (.cell (v:=(vQ (⟨(aG num (aT num den)),(aG den (aT num den))⟩:GQ))) rfl (i:=1) rfl aa29 zz29 rfl rfl rfl .nil) rfl (h.retP (by rw [hd] <;> rfl) (by rw [hd]; exact ⟨s10,s11⟩))
def aU (a:GQ) (b:GQ):GI×GI×GI :=
 bif (decide (a.den=b.den)) then
  (a.num,b.num,(aa a))
 else
  ((ab a.num (aa b)),(ab b.num (aa a)),(ab (aa a) (aa b)))
theorem kG (a:GQ) (b:GQ) (k:Nat) (hk:(k+1)≤40) (za:SzQ (k+1) a) (zb:SzQ (k+1) b) (w0:World):Calls Tryz.prog 208 #[(vQ a),(vQ b)] w0 (dh w0 (.tuple #[(vI ((aU a b).1)),(vI ((aU a b).2.1)),(vI ((aU a b).2.2))]) (SzI k ((aU a b).1)∧SzI k ((aU a b).2.1)∧SzI k ((aU a b).2.2))):=by
 refine enter (N:=33) (args:=[(vQ a),(vQ b)]) Tryz.func208 rfl rfl ?_; intro ac h
 refine gz h <| (xb) fun b1=>(xb) fun b2=>(xa) fun b3=>(xa) fun b4=>(xa) fun b5=>(ai) ?_ ?_ <;> clear h ac <;> intro ac wo h hc1
 ·
  have hd1:=of_decide_eq_true hc1
  refine gz h <| (W) ?_; clear h ac wo; intro ac wo h
  have s1:=ar ((bJ a (k+1) og za) w0)
  have hd:aU a b=(a.num,b.num,(aa a)):=pt
  refine gz h <| (dr1 (H:=[⟨.blk b5 (cI (⟨false,0⟩:GI)) 27,[(8,.con (.blk b5 (cI (aa a)) 27))]⟩,⟨.blk b4 (cI (⟨false,0⟩:GI)) 27,[(7,.con (.blk b4 (cI b.num) 27))]⟩,⟨.blk b3 (cI (⟨false,0⟩:GI)) 27,[(6,.con (.blk b3 (cI a.num) 27))]⟩,⟨_,[]⟩,⟨_,[]⟩]) (hob:=(oK (bJ a (k+1) og za)) <| oE)) <| (W) ?_; clear h ac wo; intro ac wo h
  exact ret h rfl (.cell (v:=(vI a.num)) rfl (i:=2) rfl aa27 zz27 rfl rfl rfl (.cell (v:=(vI b.num)) rfl (i:=1) rfl aa27 zz27 rfl rfl rfl (.cell (v:=(vI (aa a))) rfl (i:=0) rfl aa27 zz27 rfl rfl rfl .nil))) rfl (h.retP (by rw [hd] <;> rfl) (by rw [hd]; exact ⟨(di za og).1,(di zb og).1,(fV s1 og)⟩))
 ·
  have hd1:=of_decide_eq_false hc1
  refine gz h <| (W) ?_; clear h ac wo; intro ac wo h
  have s2:=ar ((bJ b (k+1) og zb) w0)
  have s3:=ar ((bU a.num (aa b) k og za.1 s2) w0)
  have s4:=ar ((bJ a (k+1) og za) w0)
  have s5:=ar ((bU b.num (aa a) k og zb.1 s4) w0)
  have s6:=ar ((bJ a (k+1) og za) w0)
  have s7:=ar ((bJ b (k+1) og zb) w0)
  have s8:=ar ((bU (aa a) (aa b) k og s6 s7) w0)
  have hd:aU a b=((ab a.num (aa b)),(ab b.num (aa a)),(ab (aa a) (aa b))):=pt
  refine gz h <| (dr1 (H:=[⟨.blk b5 (cI (⟨false,0⟩:GI)) 27,[(17,.con (.blk b5 (cI (ab (aa a) (aa b))) 27))]⟩,⟨.blk b4 (cI (⟨false,0⟩:GI)) 27,[(16,.con (.blk b4 (cI (ab b.num (aa a))) 27))]⟩,⟨.blk b3 (cI (⟨false,0⟩:GI)) 27,[(15,.con (.blk b3 (cI (ab a.num (aa b))) 27))]⟩,⟨_,[]⟩,⟨_,[]⟩]) (hob:=(oK (bJ b (k+1) og zb)) <| (oK (bU a.num (aa b) k og za.1 s2)) <| (oK (bJ a (k+1) og za)) <| (oK (bU b.num (aa a) k og zb.1 s4)) <| (oK (bJ a (k+1) og za)) <| (oK (bJ b (k+1) og zb)) <| (oK (bU (aa a) (aa b) k og s6 s7)) <| oE)) <| (W) ?_; clear h ac wo; intro ac wo h
  exact ret h rfl (.cell (v:=(vI (ab a.num (aa b)))) rfl (i:=2) rfl aa27 zz27 rfl rfl rfl (.cell (v:=(vI (ab b.num (aa a)))) rfl (i:=1) rfl aa27 zz27 rfl rfl rfl (.cell (v:=(vI (ab (aa a) (aa b)))) rfl (i:=0) rfl aa27 zz27 rfl rfl rfl .nil))) rfl (h.retP (by rw [hd] <;> rfl) (by rw [hd]; exact ⟨s3,s5,s8⟩))
def aB (a:GQ) (b:GQ):GQ :=
 (aZ (aH ((aU a b).1) ((aU a b).2.1)) ((aU a b).2.2))
theorem cH (a:GQ) (b:GQ) (k:Nat) (hk:(k+3)≤40) (za:SzQ (k+3) a) (zb:SzQ (k+3) b) (w0:World):Calls Tryz.prog 106 #[(vQ a),(vQ b)] w0 (dh w0 (vQ (aB a b)) (SzQ k (aB a b))):=by
 refine enter (N:=20) (args:=[(vQ a),(vQ b)]) Tryz.func106 rfl rfl ?_; intro ac h
 have c1:=kG a b (k+2) og za zb
 have s1:=ar (c1 w0)
 have s2:=ar ((fJ ((aU a b).1) ((aU a b).2.1) (k+1) og s1.1 s1.2.1) w0)
 have s3:=ar ((dV (aH ((aU a b).1) ((aU a b).2.1)) ((aU a b).2.2) k og s2 (fV s1.2.2 og)) w0)
 refine gz h <| (xb) fun b1=>(xb) fun b2=>(xa) fun b3=>(xk c1) <| (xa) fun b4=>(xa) fun b5=>(xa) fun b6=>(dr1 (H:=[⟨_,[]⟩,⟨_,[]⟩,⟨_,[]⟩,⟨.blk b3 (cQ oQ) 29,[(5,.con (.blk b3 (cQ (aZ (aH ((aU a b).1) ((aU a b).2.1)) ((aU a b).2.2))) 29))]⟩,⟨_,[]⟩,⟨_,[]⟩]) (hob:=(oK (fJ ((aU a b).1) ((aU a b).2.1) (k+1) og s1.1 s1.2.1)) <| (oK (dV (aH ((aU a b).1) ((aU a b).2.1)) ((aU a b).2.2) k og s2 (fV s1.2.2 og))) <| oE)) <| (W) ?_; clear h ac; intro ac wo h
 exact ret h rfl (.cell (v:=(vQ (aZ (aH ((aU a b).1) ((aU a b).2.1)) ((aU a b).2.2)))) rfl (i:=3) rfl aa29 zz29 rfl rfl rfl .nil) rfl (h.retP (by unfold aB; rfl) (by unfold aB; exact s3))
def aM (a:GQ):GQ :=
 (⟨(ax a.num),a.den⟩:GQ)
theorem eN (a:GQ) (k:Nat) (hk:k≤40) (za:SzQ k a) (w0:World):Calls Tryz.prog 170 #[(vQ a)] w0 (dh w0 (vQ (aM a)) (SzQ k (aM a))):=by
 refine enter (N:=9) (args:=[(vQ a)]) Tryz.func170 rfl rfl ?_; intro ac h
 have s1:=ar ((fk a.num k og za.1) w0)
 refine gz h <| (xb) fun b1=>(xa) fun b2=>(dr1 (H:=[⟨.blk b2 (cQ oQ) 29,[(6,.con (.blk b2 (cQ (⟨(ax a.num),a.den⟩:GQ)) 29))]⟩,⟨_,[]⟩]) (hob:=(oK (fk a.num k og za.1)) <| (oX (h:=by exact fun _=>bk (bX mR exs rfl (v:=(vQ (⟨(ax a.num),a.den⟩:GQ))) rfl))) <| oE)) <| (W) ?_; clear h ac; intro ac wo h
 exact ret h rfl (.cell (v:=(vQ (⟨(ax a.num),a.den⟩:GQ))) rfl (i:=0) rfl aa29 zz29 rfl rfl rfl .nil) rfl (h.retP (by unfold aM; rfl) (by unfold aM; exact ⟨s1,za.2⟩))
def ao (a:GQ) (b:GQ):GQ :=
 (aB a (aM b))
theorem dA (a:GQ) (b:GQ) (k:Nat) (hk:(k+3)≤40) (za:SzQ (k+3) a) (zb:SzQ (k+3) b) (w0:World):Calls Tryz.prog 148 #[(vQ a),(vQ b)] w0 (dh w0 (vQ (ao a b)) (SzQ k (ao a b))):=by
 refine enter (N:=9) (args:=[(vQ a),(vQ b)]) Tryz.func148 rfl rfl ?_; intro ac h
 have s1:=ar ((eN b (k+3) og zb) w0)
 have s2:=ar ((cH a (aM b) k og za s1) w0)
 refine gz h <| (xb) fun b1=>(xb) fun b2=>(xa) fun b3=>(dr1 (H:=[⟨.blk b3 (cQ oQ) 29,[(4,.con (.blk b3 (cQ (aB a (aM b))) 29))]⟩,⟨_,[]⟩,⟨_,[]⟩]) (hob:=(oK (eN b (k+3) og zb)) <| (oK (cH a (aM b) k og za s1)) <| oE)) <| (W) ?_; clear h ac; intro ac wo h
 exact ret h rfl (.cell (v:=(vQ (aB a (aM b)))) rfl (i:=0) rfl aa29 zz29 rfl rfl rfl .nil) rfl (h.retP (by unfold ao; rfl) (by unfold ao; exact s2))
def aj (a:GQ) (b:GQ):GQ :=
 (aZ (ab a.num b.num) (ab (aa a) (aa b)))
theorem bq (a:GQ) (b:GQ) (k:Nat) (hk:(k+2)≤40) (za:SzQ (k+2) a) (zb:SzQ (k+2) b) (w0:World):Calls Tryz.prog 172 #[(vQ a),(vQ b)] w0 (dh w0 (vQ (aj a b)) (SzQ k (aj a b))):=by
 refine enter (N:=16) (args:=[(vQ a),(vQ b)]) Tryz.func172 rfl rfl ?_; intro ac h
 have s1:=ar ((bU a.num b.num (k+1) og za.1 zb.1) w0)
 have s2:=ar ((bJ a (k+2) og za) w0)
 have s3:=ar ((bJ b (k+2) og zb) w0)
 have s4:=ar ((bU (aa a) (aa b) (k+1) og s2 s3) w0)
 have s5:=ar ((dV (ab a.num b.num) (ab (aa a) (aa b)) k og s1 s4) w0)
 refine gz h <| (xb) fun b1=>(xb) fun b2=>(xa) fun b3=>(dr1 (H:=[⟨.blk b3 (cQ oQ) 29,[(11,.con (.blk b3 (cQ (aZ (ab a.num b.num) (ab (aa a) (aa b)))) 29))]⟩,⟨_,[]⟩,⟨_,[]⟩]) (hob:=(oK (bU a.num b.num (k+1) og za.1 zb.1)) <| (oK (bJ a (k+2) og za)) <| (oK (bJ b (k+2) og zb)) <| (oK (bU (aa a) (aa b) (k+1) og s2 s3)) <| (oK (dV (ab a.num b.num) (ab (aa a) (aa b)) k og s1 s4)) <| oE)) <| (W) ?_; clear h ac; intro ac wo h
 exact ret h rfl (.cell (v:=(vQ (aZ (ab a.num b.num) (ab (aa a) (aa b))))) rfl (i:=0) rfl aa29 zz29 rfl rfl rfl .nil) rfl (h.retP (by unfold aj; rfl) (by unfold aj; exact s5))
def aq (a:GQ):Int :=
 (cM a.num)
theorem cB (a:GQ) (w0:World):Calls Tryz.prog 123 #[(vQ a)] w0 (dh w0 (.int .i64 (aq a)) ((-1≤(aq a)∧(aq a)≤1))):=by
 refine enter (N:=6) (args:=[(vQ a)]) Tryz.func123 rfl rfl ?_; intro ac h
 have p2:=ar ((dK a.num) w0)
 refine gz h <| (xb) fun b1=>(xk (dK a.num)) <| (W) ?_; clear h ac; intro ac wo h
 exact (rt h) (h.retP (by unfold aq; rfl) (by unfold aq; exact by first | omega | exact fQ og og))
def bA (a:GQ) (b:GQ):Int :=
 bif (decide (a=b)) then
  0
 else
  (dC ((aU a b).1) ((aU a b).2.1))
theorem jS (a:GQ) (b:GQ) (k:Nat) (hk:(k+1)≤40) (za:SzQ (k+1) a) (zb:SzQ (k+1) b) (w0:World):Calls Tryz.prog 204 #[(vQ a),(vQ b)] w0 (dh w0 (.int .i64 (bA a b)) ((-1≤(bA a b)∧(bA a b)≤1))):=by
 refine enter (N:=21) (args:=[(vQ a),(vQ b)]) Tryz.func204 rfl rfl ?_; intro ac h
 refine gz h <| (xb) fun b1=>(xb) fun b2=>(ai) ?_ ?_ <;> clear h ac <;> intro ac wo h hc1
 ·
  have hd1:=of_decide_eq_true hc1
  have hd:bA a b=0:=pt
  refine gz h <| (W) ?_; clear h ac wo; intro ac wo h
  exact (rt h) (h.retP (by rw [hd] <;> rfl) (by rw [hd]; exact by first | omega | exact fQ og og))
 ·
  have hd1:=of_decide_eq_false hc1
  have c1:=kG a b k og za zb
  have s1:=ar (c1 w0)
  have p3:=ar ((gY ((aU a b).1) ((aU a b).2.1) k og s1.1 s1.2.1) w0)
  have hd:bA a b=(dC ((aU a b).1) ((aU a b).2.1)):=pt
  refine gz h <| (xk c1) <| (xa) fun b3=>(xa) fun b4=>(xa) fun b5=>(xk (gY ((aU a b).1) ((aU a b).2.1) k og s1.1 s1.2.1)) <| (W) ?_; clear h ac wo; intro ac wo h
  exact (rt h) (h.retP (by rw [hd] <;> rfl) (by rw [hd]; exact by first | omega | exact fQ og og))
def an (c:GQ):Qd :=
 (⟨c,(⟨(⟨false,0⟩:GI),(⟨false,0⟩:GI)⟩:GQ),(⟨(⟨false,0⟩:GI),(⟨false,0⟩:GI)⟩:GQ)⟩:Qd)
theorem fS (c:GQ) (k:Nat) (hk:k≤40) (zc:SzQ k c) (w0:World):Calls Tryz.prog 157 #[(vQ c)] w0 (dh w0 (vD (an c)) (SzD k (an c))):=by
 refine enter (N:=5) (args:=[(vQ c)]) Tryz.func157 rfl rfl ?_; intro ac h
 refine gz h <| (xb) fun b1=>(xa) fun b2=>(xo (hs:=by exact bX xp exs rfl (v:=(vD (⟨c,oQ,oQ⟩:Qd))) rfl)) <| (W) ?_; clear h ac; intro ac wo h
 exact ret h rfl (.cell (v:=(vD (⟨c,oQ,oQ⟩:Qd))) rfl (i:=0) rfl Tryz.isAgg72 Tryz.sizeOf72 rfl rfl rfl .nil) rfl (h.retP (by unfold an; rfl) (by unfold an; exact ⟨zc,⟨(ed 0 (by decide) og),(ed 0 (by decide) og)⟩,⟨(ed 0 (by decide) og),(ed 0 (by decide) og)⟩⟩))
end Go.Sx
