import Derived.Test.YtbenbmdkhcfcfaaGreatDoorProg
import Derived.Test.YtbenbmdkhcfcfaaGreatDoorGdiv
set_option linter.unusedVariables false
set_option linter.unusedSimpArgs false
open Go.Proofs.Tryz renaming prog → zP, isAgg4 → aa4, underlying4 → nn4, isAgg9 → aa9, isAgg25 → aa25, sizeOf25 → zz25, isAgg27 → aa27, sizeOf27 → zz27
namespace Go.Sx
open Go Go.RowKit Go.Proofs
set_option maxRecDepth 100000
set_option maxHeartbeats 40000000
attribute [local irreducible] Code.wp wpList Rd gX ObS Ent
theorem eqi25:EqIn zP 2 25 vI:=eqS (c:=cI) (fun _=>rfl) Tryz.underlying25 Tryz.stoodInHeld25 fun d x y w hd=>by
 refine Eq.trans (eqF DC (ir aa4 rfl w) (ir aa4 rfl w) (eqB nn4 d og _ _ w) (eqF DC (ir aa9 rfl w) (ir aa9 rfl w) (eqBs Tryz.underlying9 d og _ _ w) eqF0)) ?_
 congr 1
 rw [decide_eq_decide]
 cases x; cases y; simp
theorem eqp25:EqP zP 25 vI:=EqIn.p (k:=2) rfl (c:=fun x=>(cI x).toArray) (fun _=>rfl) Tryz.eqGuardType25 eqi25
instance zi33:Ep zP 25 GI inferInstance vI:=⟨eqp25⟩
theorem vZ:EqIn zP 3 27 vQ:=eqS (c:=cQ) (fun _=>rfl) Tryz.underlying27 Tryz.stoodInHeld27 fun d x y w hd=>by
 refine Eq.trans (eqF DC (eV aa25 zz25 (v:=vI (x.num)) rfl w) (eV aa25 zz25 (v:=vI (y.num)) rfl w) (eqi25 d _ _ w og) (eqF DC (eV aa25 zz25 (v:=vI (x.den)) rfl w) (eV aa25 zz25 (v:=vI (y.den)) rfl w) (eqi25 d _ _ w og) eqF0)) ?_
 congr 1
 rw [decide_eq_decide]
 cases x; cases y; simp
theorem eqp27:EqP zP 27 vQ:=EqIn.p (k:=3) rfl (c:=fun x=>(cQ x).toArray) (fun _=>rfl) Tryz.eqGuardType27 vZ
instance zi34:Ep zP 27 GQ inferInstance vQ:=⟨eqp27⟩
theorem eqi53:EqIn zP 4 53 vD:=eqS (c:=cD) (fun _=>rfl) Tryz.underlying53 Tryz.stoodInHeld53 fun d x y w hd=>by
 refine Eq.trans (eqF DC (eV aa27 zz27 (v:=vQ (x.c0)) rfl w) (eV aa27 zz27 (v:=vQ (y.c0)) rfl w) (vZ d _ _ w og) (eqF DC (eV aa27 zz27 (v:=vQ (x.c1)) rfl w) (eV aa27 zz27 (v:=vQ (y.c1)) rfl w) (vZ d _ _ w og) (eqF DC (eV aa27 zz27 (v:=vQ (x.c2)) rfl w) (eV aa27 zz27 (v:=vQ (y.c2)) rfl w) (vZ d _ _ w og) eqF0))) ?_
 congr 1
 rw [decide_eq_decide]
 cases x; cases y; simp
theorem eqp53:EqP zP 53 vD:=EqIn.p (k:=4) rfl (c:=fun x=>(cD x).toArray) (fun _=>rfl) Tryz.eqGuardType53 eqi53
instance zi35:Ep zP 53 Qd inferInstance vD:=⟨eqp53⟩
theorem x4:EqIn zP 4 71 vR:=eqS (c:=cR) (fun _=>rfl) Tryz.underlying71 Tryz.stoodInHeld71 fun d x y w hd=>by
 refine Eq.trans (eqF DC (eV aa27 zz27 (v:=vQ (x.p)) rfl w) (eV aa27 zz27 (v:=vQ (y.p)) rfl w) (vZ d _ _ w og) (eqF DC (eV aa27 zz27 (v:=vQ (x.r)) rfl w) (eV aa27 zz27 (v:=vQ (y.r)) rfl w) (vZ d _ _ w og) (eqF DC (ir aa4 rfl w) (ir aa4 rfl w) (eqB nn4 d og _ _ w) eqF0))) ?_
 congr 1
 rw [decide_eq_decide]
 cases x; cases y; simp
theorem eqp71:EqP zP 71 vR:=EqIn.p (k:=4) rfl (c:=fun x=>(cR x).toArray) (fun _=>rfl) Tryz.eqGuardType71 x4
instance zi36:Ep zP 71 GR inferInstance vR:=⟨eqp71⟩
def dx (a:GI):Int :=
 bif (decide (a.mag=0)) then
  0
 else
  bif a.neg then
   (-1)
  else
   1
theorem eA (a:GI) (w0:World):Calls zP 115 #[(vI a)] w0 (RetP w0 (.int .i64 (dx a)) ((-1≤(dx a)∧(dx a)≤1))):=by
 refine enter (N:=10) Tryz.func115 rfl rfl ?_; intro ac h
 refine gz h <| (xb) fun b1=>(ai) ?_ ?_ <;> clear h <;> intro _ _ h hc1
 ·
  have hd1:=of_decide_eq_true hc1
  have hd:dx a=0:=pt
  exact (rx h) fun _ _ h=>(h.retP (by rw [hd] <;> rfl) (by rw [hd]; exact by first | omega | exact f9 og og))
 ·
  have hd1:=of_decide_eq_false hc1
  refine gz h <| (ai) ?_ ?_ <;> clear h <;> intro _ _ h hc2
  ·
   have hd:dx a=(-1):=pt
   exact (rx h) fun _ _ h=>(h.retP (by rw [hd] <;> rfl) (by rw [hd]; exact by first | omega | exact f9 og og))
  ·
   have hd:dx a=1:=pt
   exact (rx h) fun _ _ h=>(h.retP (by rw [hd] <;> rfl) (by rw [hd]; exact by first | omega | exact f9 og og))
def aA (a:GI):GI :=
 (aP (!a.neg) a.mag)
theorem fh (a:GI) (k:Nat) (hk:k≤40) (za:SzI k a) (w0:World):Calls zP 161 #[(vI a)] w0 (RetP w0 (vI (aA a)) (SzI k (aA a))):=by
 refine enter (N:=9) Tryz.func161 rfl rfl ?_; intro ac h
 have c1:=ce (!a.neg) a.mag k og za
 have s1:=ay (c1 w0)
 refine gz h <| (xb) fun b1=>(xa) fun b2=>(xk c1) <| (W) ?_; clear h; intro _ _ h
 exact ret h rfl (.cell (v:=(vI (aP (!a.neg) a.mag))) rfl (i:=0) rfl aa25 zz25 rfl rfl rfl .nil) rfl (h.retP (by unfold aA; rfl) (by unfold aA; exact s1))
def dN (a:GI) (b:GI):Int :=
 bif (a.neg != b.neg) then
  (dg (dx a) (dx b))
 else
  bif a.neg then
   -(bq a.mag b.mag)
  else
   (bq a.mag b.mag)
theorem iu (a:GI) (b:GI) (k:Nat) (hk:k≤40) (za:SzI k a) (zb:SzI k b) (w0:World):Calls zP 158 #[(vI a),(vI b)] w0 (RetP w0 (.int .i64 (dN a b)) ((-1≤(dN a b)∧(dN a b)≤1))):=by
 refine enter (N:=26) Tryz.func158 rfl rfl ?_; intro ac h
 refine gz h <| (xb) fun b1=>(xb) fun b2=>(xo (hs:=by exact su nn4 rfl rfl)) <| (ai) ?_ ?_ <;> clear h <;> intro _ _ h hc1
 ·
  refine gz h <| (W) ?_; clear h; intro _ _ h
  have p2:=ay ((eA a) w0)
  have p4:=ay ((eA b) w0)
  have p6:=ay ((lB (dx a) (dx b)) w0)
  have hd:dN a b=(dg (dx a) (dx b)):=pt
  refine gz h <| (dr0 (hob:=(oK (eA a)) <| (oK (eA b)) <| (oK (lB (dx a) (dx b))) <| oE)) <| (W) ?_; clear h; intro _ _ h
  exact (rt h) (h.retP (by rw [hd] <;> rfl) (by rw [hd]; exact by first | omega | exact f9 og og))
 ·
  have p8:=ay ((ej a.mag b.mag) w0)
  refine gz h <| (xk (ej a.mag b.mag)) <| (ai) ?_ ?_ <;> clear h <;> intro _ _ h hc2
  ·
   have hd:dN a b=-(bq a.mag b.mag):=pt
   refine gz h <| (xo (hs:=by exact r_neg rfl (r:=-(bq a.mag b.mag)) (by rw [IntKind.wrap_i64]; omega))) <| (W) ?_; clear h; intro _ _ h
   exact (rt h) (h.retP (by rw [hd] <;> rfl) (by rw [hd]; exact by first | omega | exact f9 og og))
  ·
   have hd:dN a b=(bq a.mag b.mag):=pt
   exact (rx h) fun _ _ h=>(h.retP (by rw [hd] <;> rfl) (by rw [hd]; exact by first | omega | exact f9 og og))
def aJ (a:GI) (b:GI):GI :=
 bif (a.neg == b.neg) then
  (aP a.neg (df a.mag b.mag))
 else
  bif (decide ((bq a.mag b.mag)≥0)) then
   (aP a.neg (dy a.mag b.mag))
  else
   (aP b.neg (dy b.mag a.mag))
theorem fm (a:GI) (b:GI) (k:Nat) (hk:(k+1)≤40) (za:SzI (k+1) a) (zb:SzI (k+1) b) (w0:World):Calls zP 96 #[(vI a),(vI b)] w0 (RetP w0 (vI (aJ a b)) (SzI k (aJ a b))):=by
 refine enter (N:=42) Tryz.func96 rfl rfl ?_; intro ac h
 refine gz h <| (xb) fun b1=>(xb) fun b2=>(xa) fun b3=>(xo (hs:=by exact xf nn4 rfl rfl)) <| (ai) ?_ ?_ <;> clear h <;> intro _ _ h hc1
 ·
  have hd1:=eq_of_beq hc1
  refine gz h <| (W) ?_; clear h; intro _ _ h
  have s1:=ay ((iT a.mag b.mag k og za zb) w0)
  have s2:=ay ((ce a.neg (df a.mag b.mag) k og s1) w0)
  have hd:aJ a b=(aP a.neg (df a.mag b.mag)):=pt
  refine gz h <| (dr1 (H:=[⟨.blk b3 (cI (⟨false,0⟩:GI)) 25,[(8,.con (.blk b3 (cI (aP a.neg (df a.mag b.mag))) 25))]⟩,⟨_,[]⟩,⟨_,[]⟩]) (hob:=(oK (iT a.mag b.mag k og za zb)) <| (oK (ce a.neg (df a.mag b.mag) k og s1)) <| oE)) <| (W) ?_; clear h; intro _ _ h
  exact ret h rfl (.cell (v:=(vI (aP a.neg (df a.mag b.mag)))) rfl (i:=0) rfl aa25 zz25 rfl rfl rfl .nil) rfl (h.retP (by rw [hd] <;> rfl) (by rw [hd]; exact s2))
 ·
  have hd1:=ne_of_beq_false hc1
  have p4:=ay ((ej a.mag b.mag) w0)
  refine gz h <| (xk (ej a.mag b.mag)) <| (ai) ?_ ?_ <;> clear h <;> intro _ _ h hc2
  ·
   have hd2:=of_decide_eq_true hc2
   refine gz h <| (W) ?_; clear h; intro _ _ h
   have s5:=ay ((im a.mag b.mag (k+1) og za zb (by first | exact u6 ‹_› | exact u5 ‹_›)) w0)
   have s6:=ay ((ce a.neg (dy a.mag b.mag) (k+1) og s5) w0)
   have hd:aJ a b=(aP a.neg (dy a.mag b.mag)):=pt
   refine gz h <| (dr1 (H:=[⟨.blk b3 (cI (⟨false,0⟩:GI)) 25,[(8,.con (.blk b3 (cI (aP a.neg (dy a.mag b.mag))) 25))]⟩,⟨_,[]⟩,⟨_,[]⟩]) (hob:=(oK (im a.mag b.mag (k+1) og za zb (by first | exact u6 ‹_› | exact u5 ‹_›))) <| (oK (ce a.neg (dy a.mag b.mag) (k+1) og s5)) <| oE)) <| (W) ?_; clear h; intro _ _ h
   exact ret h rfl (.cell (v:=(vI (aP a.neg (dy a.mag b.mag)))) rfl (i:=0) rfl aa25 zz25 rfl rfl rfl .nil) rfl (h.retP (by rw [hd] <;> rfl) (by rw [hd]; exact (gu s6 og)))
  ·
   have hd2:=of_decide_eq_false hc2
   refine gz h <| (W) ?_; clear h; intro _ _ h
   have s7:=ay ((im b.mag a.mag (k+1) og zb za (by first | exact u6 ‹_› | exact u5 ‹_›)) w0)
   have s8:=ay ((ce b.neg (dy b.mag a.mag) (k+1) og s7) w0)
   have hd:aJ a b=(aP b.neg (dy b.mag a.mag)):=pt
   refine gz h <| (dr1 (H:=[⟨.blk b3 (cI (⟨false,0⟩:GI)) 25,[(8,.con (.blk b3 (cI (aP b.neg (dy b.mag a.mag))) 25))]⟩,⟨_,[]⟩,⟨_,[]⟩]) (hob:=(oK (im b.mag a.mag (k+1) og zb za (by first | exact u6 ‹_› | exact u5 ‹_›))) <| (oK (ce b.neg (dy b.mag a.mag) (k+1) og s7)) <| oE)) <| (W) ?_; clear h; intro _ _ h
   exact ret h rfl (.cell (v:=(vI (aP b.neg (dy b.mag a.mag)))) rfl (i:=0) rfl aa25 zz25 rfl rfl rfl .nil) rfl (h.retP (by rw [hd] <;> rfl) (by rw [hd]; exact (gu s8 og)))
def ab (a:GI) (b:GI):GI :=
 (aP (a.neg != b.neg) (fU a.mag b.mag))
theorem cA (a:GI) (b:GI) (k:Nat) (hk:(k+1)≤40) (za:SzI (k+1) a) (zb:SzI (k+1) b) (w0:World):Calls zP 97 #[(vI a),(vI b)] w0 (RetP w0 (vI (ab a b)) (SzI k (ab a b))):=by
 refine enter (N:=16) Tryz.func97 rfl rfl ?_; intro ac h
 have s1:=ay ((kV a.mag b.mag k og za zb) w0)
 have s2:=ay ((ce (a.neg != b.neg) (fU a.mag b.mag) k og s1) w0)
 refine gz h <| (xb) fun b1=>(xb) fun b2=>(xa) fun b3=>(dr1 (H:=[⟨.blk b3 (cI (⟨false,0⟩:GI)) 25,[(11,.con (.blk b3 (cI (aP (a.neg != b.neg) (fU a.mag b.mag))) 25))]⟩,⟨_,[]⟩,⟨_,[]⟩]) (hob:=(oX (h:=by exact fun _=>bc (su nn4 rfl rfl))) <| (oK (kV a.mag b.mag k og za zb)) <| (oK (ce (a.neg != b.neg) (fU a.mag b.mag) k og s1)) <| oE)) <| (W) ?_; clear h; intro _ _ h
 exact ret h rfl (.cell (v:=(vI (aP (a.neg != b.neg) (fU a.mag b.mag)))) rfl (i:=0) rfl aa25 zz25 rfl rfl rfl .nil) rfl (h.retP (by unfold ab; rfl) (by unfold ab; exact s2))
def a7 (a b:GI):GI:=aP false (Nat.gcd a.mag b.mag)
theorem uR (x y:Nat):Nat.gcd y (x % y)=Nat.gcd x y:=by rw [Nat.gcd_comm x y,Nat.gcd_rec y x,Nat.gcd_comm]
theorem jN (a:GI) (b:GI) (k:Nat) (hk:k≤40) (za:SzI k a) (zb:SzI k b) (w0:World):Calls zP 160 #[(vI a),(vI b)] w0 (RetP w0 (vI (a7 a b)) (SzI k (a7 a b))):=by
 refine enter (N:=45) Tryz.func160 rfl rfl ?_; intro ac h
 refine gz h <| (xb) fun b1=>(xb) fun b2=>(xa) fun b3=>(dr0 (hob:=oE)) <| (W) ?_; clear h; intro _ _ h
 refine wp_loop_ghost (fun n_ a_ w_=>∃ (x:Nat) (y:Nat),n_=1*y∧(Nat.gcd x y=Nat.gcd a.mag b.mag)∧(SzB k x)∧(SzB k y)∧St w0 45 [(4,(ptr b3 0)),(5,(.string (bs x))),(6,(.string (bs y)))] [.blk b3 (cI (⟨false,0⟩:GI)) 25,.blk b2 (cI b) 25,.blk b1 (cI a) 25] a_ w_) _ ⟨a.mag,b.mag,rfl,rfl,za,zb,h.re [0,1,2]⟩ ?_
 clear h; rintro _ _ _ ⟨x,y,rfl,hg,zx,zy,h⟩
 refine gz h <| (ai) ?_ ?_ <;> clear h <;> intro _ _ h hc1
 ·
  have hy:y≠0:=by simpa using hc1
  refine gz h <| (xk (ie x y)) <| (ai) ?_ ?_ <;> clear h <;> intro _ _ h hc2
  ·
   obtain ⟨ha6,hb6,hw⟩:=l8 hc2
   simp only [hw] at h
   refine gz h <| (W) ?_; clear h; intro _ _ h
   refine wp_loop_ghost (fun n_ a_ w_=>∃ (u:Nat) (v:Nat),n_=1*v∧(Nat.gcd u v=Nat.gcd a.mag b.mag)∧(SzB k u)∧(SzB k v)∧(u < 18446744073709551616∧v < 18446744073709551616)∧St w0 45 [(4,(ptr b3 0)),(7,(.int .u64 (u:Int))),(8,(.int .u64 (v:Int)))] [.blk b3 (cI (⟨false,0⟩:GI)) 25,.blk b2 (cI b) 25,.blk b1 (cI a) 25] a_ w_) _ ⟨x,y,rfl,hg,zx,zy,⟨ha6,hb6⟩,h.re [0,1,2]⟩ ?_
   clear h; rintro _ _ _ ⟨u,v,rfl,hgu,zu,zv,hul,h⟩
   refine gz h <| (ai) ?_ ?_ <;> clear h <;> intro _ _ h hc3
   ·
    have hv:v≠0:=by have:=hc3; simp at this; omega
    refine gz h <| (dr0 (hob:=(oX (h:=by exact fun _=>bc (j0 rfl rfl (r:=((u % v:Nat):Int)) og (by rw [Int.tmod_eq_emod_of_nonneg og]; rfl)))) <| oE)) <| (W) ?_; clear h; intro _ _ h
    exact aF ⟨_,(by have:=Nat.mod_lt u (show v>0 by omega); omega),v,(u % v),rfl,(by rw [uR]; exact hgu),zv,(iW zu (Nat.mod_le _ _)),⟨hul.2,by have:=Nat.mod_lt u (show v>0 by omega); omega⟩,h.re [0,1,2]⟩
   ·
    have hv:v=0:=by have:=hc3; simp at this; omega
    subst hv
    have c1:=ce false (bN u) k og zu
    have s1:=ay (c1 w0)
    have hd:a7 a b=(aP false (bN u)):=(by rw [Nat.gcd_zero_right] at hgu; unfold a7; rw [← hgu]; rfl)
    refine gz h <| (xk (dB u hul.1)) <| (xk c1) <| (W) ?_; clear h; intro _ _ h
    exact ret h rfl (.cell (v:=(vI (aP false (bN u)))) rfl (i:=0) rfl aa25 zz25 rfl rfl rfl .nil) rfl (h.retP (by rw [hd] <;> rfl) (by rw [hd]; exact s1))
  ·
   have c2:=jM x y k og zx zy og
   have s2:=ay (c2 w0)
   refine gz h <| (xk c2) <| (W) ?_; clear h; intro _ _ h
   exact aF ⟨_,(by have:=Nat.mod_lt x (show y>0 by omega); omega),y,(x % y),rfl,(by rw [uR]; exact hg),zy,(iW zx (Nat.mod_le _ _)),h.re [0,1,2]⟩
 ·
  have hy:y=0:=by simpa using hc1
  subst hy
  have c3:=ce false x k og zx
  have s3:=ay (c3 w0)
  have hd:a7 a b=(aP false x):=(by rw [Nat.gcd_zero_right] at hg; unfold a7; rw [← hg])
  refine gz h <| (xk c3) <| (W) ?_; clear h; intro _ _ h
  exact ret h rfl (.cell (v:=(vI (aP false x))) rfl (i:=0) rfl aa25 zz25 rfl rfl rfl .nil) rfl (h.retP (by rw [hd] <;> rfl) (by rw [hd]; exact s3))
def aQ (a:GI) (b:GI):GI×GI×Int :=
 bif (decide (b.mag=0)) then
  ((⟨false,0⟩:GI),(⟨false,0⟩:GI),6)
 else
  bif (a.neg && (!(decide (((bt a.mag b.mag).2)=0)))) then
   ((aP (a.neg != b.neg) (df ((bt a.mag b.mag).1) 1)),(aP false (dy b.mag ((bt a.mag b.mag).2))),0)
  else
   ((aP (a.neg != b.neg) ((bt a.mag b.mag).1)),(aP false ((bt a.mag b.mag).2)),0)
theorem gU (a:GI) (b:GI) (k:Nat) (hk:(k+1)≤40) (za:SzI (k+1) a) (zb:SzI (k+1) b) (w0:World):Calls zP 253 #[(vI a),(vI b)] w0 (RetP w0 (.tuple #[(vI ((aQ a b).1)),(vI ((aQ a b).2.1)),(.int .i64 ((aQ a b).2.2))]) (SzI k ((aQ a b).1)∧SzI k ((aQ a b).2.1))):=by
 refine enter (N:=43) Tryz.func253 rfl rfl ?_; intro ac h
 refine gz h <| (xb) fun b1=>(xb) fun b2=>(xa) fun b3=>(xa) fun b4=>(ai) ?_ ?_ <;> clear h <;> intro _ _ h hc1
 ·
  have hd1:=of_decide_eq_true hc1
  have hd:aQ a b=((⟨false,0⟩:GI),(⟨false,0⟩:GI),6):=pt
  refine gz h <| (xo (hs:=by exact bM qx exs rfl (v:=(vI (⟨false,0⟩:GI))) rfl)) <| (xo (hs:=by exact bM qx exs rfl (v:=(vI (⟨false,0⟩:GI))) rfl)) <| (W) ?_; clear h; intro _ _ h
  exact ret h rfl (.cell (v:=(vI (⟨false,0⟩:GI))) rfl (i:=1) rfl aa25 zz25 rfl rfl rfl (.cell (v:=(vI (⟨false,0⟩:GI))) rfl (i:=0) rfl aa25 zz25 rfl rfl rfl (.tmp rfl .nil))) rfl (h.retP (by rw [hd] <;> rfl) (by rw [hd]; exact ⟨(bI 0 DC og),(bI 0 DC og)⟩))
 ·
  have hd1:=of_decide_eq_false hc1
  have c1:=jM a.mag b.mag (k+1) og za zb og
  have s1:=ay (c1 w0)
  refine gz h <| (xk c1) <| (ai) ?_ ?_ <;> clear h <;> intro _ _ h hc2
  ·
   have s2:=ay ((iT ((bt a.mag b.mag).1) 1 k og s1.1 (bI 1 DC og)) w0)
   have s3:=ay ((im b.mag ((bt a.mag b.mag).2) (k+1) og zb s1.2 (Nat.le_of_lt (Nat.mod_lt _ og))) w0)
   refine gz h <| (dr0 (hob:=(oK (iT ((bt a.mag b.mag).1) 1 k og s1.1 (bI 1 DC og))) <| (oK (im b.mag ((bt a.mag b.mag).2) (k+1) og zb s1.2 (Nat.le_of_lt (Nat.mod_lt _ og)))) <| oE)) <| (W) ?_; clear h; intro _ _ h
   have c4:=ce (a.neg != b.neg) (df ((bt a.mag b.mag).1) 1) k og s2
   have s4:=ay (c4 w0)
   have c5:=ce false (dy b.mag ((bt a.mag b.mag).2)) (k+1) og s3
   have s5:=ay (c5 w0)
   have hd:aQ a b=((aP (a.neg != b.neg) (df ((bt a.mag b.mag).1) 1)),(aP false (dy b.mag ((bt a.mag b.mag).2))),0):=pt
   refine gz h <| (xo (hs:=by exact su nn4 rfl rfl)) <| (xk c4) <| (xk c5) <| (W) ?_; clear h; intro _ _ h
   exact ret h rfl (.cell (v:=(vI (aP (a.neg != b.neg) (df ((bt a.mag b.mag).1) 1)))) rfl (i:=1) rfl aa25 zz25 rfl rfl rfl (.cell (v:=(vI (aP false (dy b.mag ((bt a.mag b.mag).2))))) rfl (i:=0) rfl aa25 zz25 rfl rfl rfl (.tmp rfl .nil))) rfl (h.retP (by rw [hd] <;> rfl) (by rw [hd]; exact ⟨s4,(gu s5 og)⟩))
  ·
   have c6:=ce (a.neg != b.neg) ((bt a.mag b.mag).1) (k+1) og s1.1
   have s6:=ay (c6 w0)
   have c7:=ce false ((bt a.mag b.mag).2) (k+1) og s1.2
   have s7:=ay (c7 w0)
   have hd:aQ a b=((aP (a.neg != b.neg) ((bt a.mag b.mag).1)),(aP false ((bt a.mag b.mag).2)),0):=pt
   refine gz h <| (xo (hs:=by exact su nn4 rfl rfl)) <| (xk c6) <| (xk c7) <| (W) ?_; clear h; intro _ _ h
   exact ret h rfl (.cell (v:=(vI (aP (a.neg != b.neg) ((bt a.mag b.mag).1)))) rfl (i:=1) rfl aa25 zz25 rfl rfl rfl (.cell (v:=(vI (aP false ((bt a.mag b.mag).2)))) rfl (i:=0) rfl aa25 zz25 rfl rfl rfl (.tmp rfl .nil))) rfl (h.retP (by rw [hd] <;> rfl) (by rw [hd]; exact ⟨(gu s6 og),(gu s7 og)⟩))
def rational_one :GI :=
 (ar 1)
theorem fv (k:Nat) (hk:k≤40) (w0:World):Calls zP 159 #[] w0 (RetP w0 (vI rational_one) (SzI k rational_one)):=by
 refine enter (N:=2) Tryz.func159 rfl rfl ?_; intro ac h
 have c1:=em 1 k og  og
 have s1:=ay (c1 w0)
 refine gz h <| (xa) fun b1=>(xk c1) <| (W) ?_; clear h; intro _ _ h
 exact ret h rfl (.cell (v:=(vI (ar 1))) rfl (i:=0) rfl aa25 zz25 rfl rfl rfl .nil) rfl (h.retP (by unfold rational_one; rfl) (by unfold rational_one; exact s1))
def ah (n:Int):GQ :=
 (⟨(ar n),(⟨false,0⟩:GI)⟩:GQ)
theorem bQ (n:Int) (k:Nat) (hk:k≤40) (hn:-9223372036854775808≤n∧n≤9223372036854775807) (w0:World):Calls zP 85 #[(.int .i64 n)] w0 (RetP w0 (vQ (ah n)) (SzQ k (ah n))):=by
 refine enter (N:=6) Tryz.func85 rfl rfl ?_; intro ac h
 have c1:=em n k og  og
 have s1:=ay (c1 w0)
 refine gz h <| (xa) fun b1=>(xk c1) <| (xo (hs:=by exact bM qe exs rfl (v:=(vQ (⟨(ar n),(⟨false,0⟩:GI)⟩:GQ))) rfl)) <| (W) ?_; clear h; intro _ _ h
 exact ret h rfl (.cell (v:=(vQ (⟨(ar n),(⟨false,0⟩:GI)⟩:GQ))) rfl (i:=0) rfl aa27 zz27 rfl rfl rfl .nil) rfl (h.retP (by unfold ah; rfl) (by unfold ah; exact ⟨s1,(bI 0 DC og)⟩))
def aa (a:GQ):GI :=
 bif (decide (a.den=(⟨false,0⟩:GI))) then
  rational_one
 else
  a.den
theorem cd (a:GQ) (k:Nat) (hk:k≤40) (za:SzQ k a) (w0:World):Calls zP 98 #[(vQ a)] w0 (RetP w0 (vI (aa a)) (SzI k (aa a))):=by
 refine enter (N:=10) Tryz.func98 rfl rfl ?_; intro ac h
 refine gz h <| (xb) fun b1=>(xa) fun b2=>(xo (hs:=by exact bM qx exs rfl (v:=(vI (⟨false,0⟩:GI))) rfl)) <| (ai) ?_ ?_ <;> clear h <;> intro _ _ h hc1
 ·
  have hd1:=of_decide_eq_true hc1
  have c1:=fv  k og
  have s1:=ay (c1 w0)
  have hd:aa a=rational_one:=pt
  refine gz h <| (xk c1) <| (W) ?_; clear h; intro _ _ h
  exact ret h rfl (.cell (v:=(vI rational_one)) rfl (i:=0) rfl aa25 zz25 rfl rfl rfl .nil) rfl (h.retP (by rw [hd] <;> rfl) (by rw [hd]; exact s1))
 ·
  have hd1:=of_decide_eq_false hc1
  have hd:aa a=a.den:=pt
  refine gz h <| (W) ?_; clear h; intro _ _ h
  exact ret h rfl (.cell (v:=(vI a.den)) rfl (i:=0) rfl aa25 zz25 rfl rfl rfl .nil) rfl (h.retP (by rw [hd] <;> rfl) (by rw [hd]; exact za.2))
def aO (a:GI) (b:GI):GI :=
 (aQ a b).1
theorem dS (a:GI) (b:GI) (k:Nat) (hk:(k+1)≤40) (za:SzI (k+1) a) (zb:SzI (k+1) b) (w0:World):Calls zP 192 #[(vI a),(vI b)] w0 (RetP w0 (vI (aO a b)) (SzI k (aO a b))):=by
 refine enter (N:=16) Tryz.func192 rfl rfl ?_; intro ac h
 have c1:=gU a b k og za zb
 have s1:=ay (c1 w0)
 refine gz h <| (xb) fun b1=>(xb) fun b2=>(xa) fun b3=>(xk c1) <| (xa) fun b4=>(xa) fun b5=>(W) ?_; clear h; intro _ _ h
 exact ret h rfl (.cell (v:=(vI ((aQ a b).1))) rfl (i:=2) rfl aa25 zz25 rfl rfl rfl .nil) rfl (h.retP (by unfold aO; rfl) (by unfold aO; exact s1.1))
def bH (num:GI) (den:GI):GQ :=
 bif (decide ((dx den) < 0)) then
  bif (decide ((aO (aA den) (a7 (aA num) (aA den)))=rational_one)) then
   (⟨(aO (aA num) (a7 (aA num) (aA den))),(⟨false,0⟩:GI)⟩:GQ)
  else
   (⟨(aO (aA num) (a7 (aA num) (aA den))),(aO (aA den) (a7 (aA num) (aA den)))⟩:GQ)
 else
  bif (decide ((aO den (a7 num den))=rational_one)) then
   (⟨(aO num (a7 num den)),(⟨false,0⟩:GI)⟩:GQ)
  else
   (⟨(aO num (a7 num den)),(aO den (a7 num den))⟩:GQ)
theorem eF (num:GI) (den:GI) (k:Nat) (hk:(k+1)≤40) (znum:SzI (k+1) num) (zden:SzI (k+1) den) (w0:World):Calls zP 95 #[(vI num),(vI den)] w0 (RetP w0 (vQ (bH num den)) (SzQ k (bH num den))):=by
 refine enter (N:=29) Tryz.func95 rfl rfl ?_; intro ac h
 have p2:=ay ((eA den) w0)
 refine gz h <| (xb) fun b1=>(xb) fun b2=>(xa) fun b3=>(xk (eA den)) <| (ai) ?_ ?_ <;> clear h <;> intro _ _ h hc1
 ·
  have hd1:=of_decide_eq_true hc1
  have s3:=ay ((fh num (k+1) og znum) w0)
  have s4:=ay ((fh den (k+1) og zden) w0)
  refine gz h <| (dr1 (H:=[⟨_,[]⟩,⟨.blk b2 (cI den) 25,[(5,.con (.blk b2 (cI (aA den)) 25))]⟩,⟨.blk b1 (cI num) 25,[(4,.con (.blk b1 (cI (aA num)) 25))]⟩]) (hob:=(oK (fh num (k+1) og znum)) <| (oK (fh den (k+1) og zden)) <| oE)) <| (W) ?_; clear h; intro _ _ h
  have c5:=jN (aA num) (aA den) (k+1) og s3 s4
  have s5:=ay (c5 w0)
  have s6:=ay ((dS (aA num) (a7 (aA num) (aA den)) k og s3 s5) w0)
  have s7:=ay ((dS (aA den) (a7 (aA num) (aA den)) k og s4 s5) w0)
  refine gz h <| (xk c5) <| (xa) fun b4=>(dr1 (H:=[⟨_,[]⟩,⟨_,[]⟩,⟨.blk b2 (cI (aA den)) 25,[(7,.con (.blk b2 (cI (aO (aA den) (a7 (aA num) (aA den)))) 25))]⟩,⟨.blk b1 (cI (aA num)) 25,[(6,.con (.blk b1 (cI (aO (aA num) (a7 (aA num) (aA den)))) 25))]⟩]) (hob:=(oK (dS (aA num) (a7 (aA num) (aA den)) k og s3 s5)) <| (oK (dS (aA den) (a7 (aA num) (aA den)) k og s4 s5)) <| oE)) <| (W) ?_; clear h; intro _ _ h
  have s8:=ay ((fv  (k+1) og ) w0)
  refine gz h <| (dr0 (hob:=(oK (fv  (k+1) og )) <| oE)) <| (ai) ?_ ?_ <;> clear h <;> intro _ _ h hc2
  ·
   have hd2:=of_decide_eq_true hc2
   have hd:bH num den=(⟨(aO (aA num) (a7 (aA num) (aA den))),(⟨false,0⟩:GI)⟩:GQ):=pt
   refine gz h <| (xo (hs:=by exact bM qx exs rfl (v:=(vI (⟨false,0⟩:GI))) rfl)) <| (xo (hs:=by exact bM qe exs rfl (v:=(vQ (⟨(aO (aA num) (a7 (aA num) (aA den))),(⟨false,0⟩:GI)⟩:GQ))) rfl)) <| (W) ?_; clear h; intro _ _ h
   exact ret h rfl (.cell (v:=(vQ (⟨(aO (aA num) (a7 (aA num) (aA den))),(⟨false,0⟩:GI)⟩:GQ))) rfl (i:=1) rfl aa27 zz27 rfl rfl rfl .nil) rfl (h.retP (by rw [hd] <;> rfl) (by rw [hd]; exact ⟨s6,(bI 0 DC og)⟩))
  ·
   have hd2:=of_decide_eq_false hc2
   have hd:bH num den=(⟨(aO (aA num) (a7 (aA num) (aA den))),(aO (aA den) (a7 (aA num) (aA den)))⟩:GQ):=pt
   refine gz h <| (xo (hs:=by exact bM qe exs rfl (v:=(vQ (⟨(aO (aA num) (a7 (aA num) (aA den))),(aO (aA den) (a7 (aA num) (aA den)))⟩:GQ))) rfl)) <| (W) ?_; clear h; intro _ _ h
   exact ret h rfl (.cell (v:=(vQ (⟨(aO (aA num) (a7 (aA num) (aA den))),(aO (aA den) (a7 (aA num) (aA den)))⟩:GQ))) rfl (i:=1) rfl aa27 zz27 rfl rfl rfl .nil) rfl (h.retP (by rw [hd] <;> rfl) (by rw [hd]; exact ⟨s6,s7⟩))
 ·
  have hd1:=of_decide_eq_false hc1
  have c9:=jN num den (k+1) og znum zden
  have s9:=ay (c9 w0)
  have s10:=ay ((dS num (a7 num den) k og znum s9) w0)
  have s11:=ay ((dS den (a7 num den) k og zden s9) w0)
  refine gz h <| (xk c9) <| (xa) fun b5=>(dr1 (H:=[⟨_,[]⟩,⟨_,[]⟩,⟨.blk b2 (cI den) 25,[(7,.con (.blk b2 (cI (aO den (a7 num den))) 25))]⟩,⟨.blk b1 (cI num) 25,[(6,.con (.blk b1 (cI (aO num (a7 num den))) 25))]⟩]) (hob:=(oK (dS num (a7 num den) k og znum s9)) <| (oK (dS den (a7 num den) k og zden s9)) <| oE)) <| (W) ?_; clear h; intro _ _ h
  have s12:=ay ((fv  (k+1) og ) w0)
  refine gz h <| (dr0 (hob:=(oK (fv  (k+1) og )) <| oE)) <| (ai) ?_ ?_ <;> clear h <;> intro _ _ h hc3
  ·
   have hd3:=of_decide_eq_true hc3
   have hd:bH num den=(⟨(aO num (a7 num den)),(⟨false,0⟩:GI)⟩:GQ):=pt
   refine gz h <| (xo (hs:=by exact bM qx exs rfl (v:=(vI (⟨false,0⟩:GI))) rfl)) <| (xo (hs:=by exact bM qe exs rfl (v:=(vQ (⟨(aO num (a7 num den)),(⟨false,0⟩:GI)⟩:GQ))) rfl)) <| (W) ?_; clear h; intro _ _ h
   exact ret h rfl (.cell (v:=(vQ (⟨(aO num (a7 num den)),(⟨false,0⟩:GI)⟩:GQ))) rfl (i:=1) rfl aa27 zz27 rfl rfl rfl .nil) rfl (h.retP (by rw [hd] <;> rfl) (by rw [hd]; exact ⟨s10,(bI 0 DC og)⟩))
  ·
   have hd3:=of_decide_eq_false hc3
   have hd:bH num den=(⟨(aO num (a7 num den)),(aO den (a7 num den))⟩:GQ):=pt
   refine gz h <| (xo (hs:=by exact bM qe exs rfl (v:=(vQ (⟨(aO num (a7 num den)),(aO den (a7 num den))⟩:GQ))) rfl)) <| (W) ?_; clear h; intro _ _ h
   exact ret h rfl (.cell (v:=(vQ (⟨(aO num (a7 num den)),(aO den (a7 num den))⟩:GQ))) rfl (i:=1) rfl aa27 zz27 rfl rfl rfl .nil) rfl (h.retP (by rw [hd] <;> rfl) (by rw [hd]; exact ⟨s10,s11⟩))
def aY (a:GQ) (b:GQ):GI×GI×GI :=
 bif (decide (a.den=b.den)) then
  (a.num,b.num,(aa a))
 else
  ((ab a.num (aa b)),(ab b.num (aa a)),(ab (aa a) (aa b)))
theorem lh (a:GQ) (b:GQ) (k:Nat) (hk:(k+1)≤40) (za:SzQ (k+1) a) (zb:SzQ (k+1) b) (w0:World):Calls zP 94 #[(vQ a),(vQ b)] w0 (RetP w0 (.tuple #[(vI ((aY a b).1)),(vI ((aY a b).2.1)),(vI ((aY a b).2.2))]) (SzI k ((aY a b).1)∧SzI k ((aY a b).2.1)∧SzI k ((aY a b).2.2))):=by
 refine enter (N:=33) Tryz.func94 rfl rfl ?_; intro ac h
 refine gz h <| (xb) fun b1=>(xb) fun b2=>(xa) fun b3=>(xa) fun b4=>(xa) fun b5=>(ai) ?_ ?_ <;> clear h <;> intro _ _ h hc1
 ·
  have hd1:=of_decide_eq_true hc1
  refine gz h <| (W) ?_; clear h; intro _ _ h
  have s1:=ay ((cd a (k+1) og za) w0)
  have hd:aY a b=(a.num,b.num,(aa a)):=pt
  refine gz h <| (dr1 (H:=[⟨.blk b5 (cI (⟨false,0⟩:GI)) 25,[(8,.con (.blk b5 (cI (aa a)) 25))]⟩,⟨.blk b4 (cI (⟨false,0⟩:GI)) 25,[(7,.con (.blk b4 (cI b.num) 25))]⟩,⟨.blk b3 (cI (⟨false,0⟩:GI)) 25,[(6,.con (.blk b3 (cI a.num) 25))]⟩,⟨_,[]⟩,⟨_,[]⟩]) (hob:=(oK (cd a (k+1) og za)) <| oE)) <| (W) ?_; clear h; intro _ _ h
  exact ret h rfl (.cell (v:=(vI a.num)) rfl (i:=2) rfl aa25 zz25 rfl rfl rfl (.cell (v:=(vI b.num)) rfl (i:=1) rfl aa25 zz25 rfl rfl rfl (.cell (v:=(vI (aa a))) rfl (i:=0) rfl aa25 zz25 rfl rfl rfl .nil))) rfl (h.retP (by rw [hd] <;> rfl) (by rw [hd]; exact ⟨(f8 za og).1,(f8 zb og).1,(gu s1 og)⟩))
 ·
  have hd1:=of_decide_eq_false hc1
  refine gz h <| (W) ?_; clear h; intro _ _ h
  have s2:=ay ((cd b (k+1) og zb) w0)
  have s3:=ay ((cA a.num (aa b) k og za.1 s2) w0)
  have s4:=ay ((cd a (k+1) og za) w0)
  have s5:=ay ((cA b.num (aa a) k og zb.1 s4) w0)
  have s6:=ay ((cd a (k+1) og za) w0)
  have s7:=ay ((cd b (k+1) og zb) w0)
  have s8:=ay ((cA (aa a) (aa b) k og s6 s7) w0)
  have hd:aY a b=((ab a.num (aa b)),(ab b.num (aa a)),(ab (aa a) (aa b))):=pt
  refine gz h <| (dr1 (H:=[⟨.blk b5 (cI (⟨false,0⟩:GI)) 25,[(17,.con (.blk b5 (cI (ab (aa a) (aa b))) 25))]⟩,⟨.blk b4 (cI (⟨false,0⟩:GI)) 25,[(16,.con (.blk b4 (cI (ab b.num (aa a))) 25))]⟩,⟨.blk b3 (cI (⟨false,0⟩:GI)) 25,[(15,.con (.blk b3 (cI (ab a.num (aa b))) 25))]⟩,⟨_,[]⟩,⟨_,[]⟩]) (hob:=(oK (cd b (k+1) og zb)) <| (oK (cA a.num (aa b) k og za.1 s2)) <| (oK (cd a (k+1) og za)) <| (oK (cA b.num (aa a) k og zb.1 s4)) <| (oK (cd a (k+1) og za)) <| (oK (cd b (k+1) og zb)) <| (oK (cA (aa a) (aa b) k og s6 s7)) <| oE)) <| (W) ?_; clear h; intro _ _ h
  exact ret h rfl (.cell (v:=(vI (ab a.num (aa b)))) rfl (i:=2) rfl aa25 zz25 rfl rfl rfl (.cell (v:=(vI (ab b.num (aa a)))) rfl (i:=1) rfl aa25 zz25 rfl rfl rfl (.cell (v:=(vI (ab (aa a) (aa b)))) rfl (i:=0) rfl aa25 zz25 rfl rfl rfl .nil))) rfl (h.retP (by rw [hd] <;> rfl) (by rw [hd]; exact ⟨s3,s5,s8⟩))
def be (a:GQ) (b:GQ):GQ :=
 (bH (aJ ((aY a b).1) ((aY a b).2.1)) ((aY a b).2.2))
theorem dq (a:GQ) (b:GQ) (k:Nat) (hk:(k+3)≤40) (za:SzQ (k+3) a) (zb:SzQ (k+3) b) (w0:World):Calls zP 20 #[(vQ a),(vQ b)] w0 (RetP w0 (vQ (be a b)) (SzQ k (be a b))):=by
 refine enter (N:=20) Tryz.func20 rfl rfl ?_; intro ac h
 have c1:=lh a b (k+2) og za zb
 have s1:=ay (c1 w0)
 have s2:=ay ((fm ((aY a b).1) ((aY a b).2.1) (k+1) og s1.1 s1.2.1) w0)
 have s3:=ay ((eF (aJ ((aY a b).1) ((aY a b).2.1)) ((aY a b).2.2) k og s2 (gu s1.2.2 og)) w0)
 refine gz h <| (xb) fun b1=>(xb) fun b2=>(xa) fun b3=>(xk c1) <| (xa) fun b4=>(xa) fun b5=>(xa) fun b6=>(dr1 (H:=[⟨_,[]⟩,⟨_,[]⟩,⟨_,[]⟩,⟨.blk b3 (cQ oQ) 27,[(5,.con (.blk b3 (cQ (bH (aJ ((aY a b).1) ((aY a b).2.1)) ((aY a b).2.2))) 27))]⟩,⟨_,[]⟩,⟨_,[]⟩]) (hob:=(oK (fm ((aY a b).1) ((aY a b).2.1) (k+1) og s1.1 s1.2.1)) <| (oK (eF (aJ ((aY a b).1) ((aY a b).2.1)) ((aY a b).2.2) k og s2 (gu s1.2.2 og))) <| oE)) <| (W) ?_; clear h; intro _ _ h
 exact ret h rfl (.cell (v:=(vQ (bH (aJ ((aY a b).1) ((aY a b).2.1)) ((aY a b).2.2)))) rfl (i:=3) rfl aa27 zz27 rfl rfl rfl .nil) rfl (h.retP (by unfold be; rfl) (by unfold be; exact s3))
def cq (a:GQ):GQ :=
 (⟨(aA a.num),a.den⟩:GQ)
theorem ji (a:GQ) (k:Nat) (hk:k≤40) (za:SzQ k a) (w0:World):Calls zP 63 #[(vQ a)] w0 (RetP w0 (vQ (cq a)) (SzQ k (cq a))):=by
 refine enter (N:=9) Tryz.func63 rfl rfl ?_; intro ac h
 have s1:=ay ((fh a.num k og za.1) w0)
 refine gz h <| (xb) fun b1=>(xa) fun b2=>(dr1 (H:=[⟨.blk b2 (cQ oQ) 27,[(6,.con (.blk b2 (cQ (⟨(aA a.num),a.den⟩:GQ)) 27))]⟩,⟨_,[]⟩]) (hob:=(oK (fh a.num k og za.1)) <| (oX (h:=by exact fun _=>bc (bM qe exs rfl (v:=(vQ (⟨(aA a.num),a.den⟩:GQ))) rfl))) <| oE)) <| (W) ?_; clear h; intro _ _ h
 exact ret h rfl (.cell (v:=(vQ (⟨(aA a.num),a.den⟩:GQ))) rfl (i:=0) rfl aa27 zz27 rfl rfl rfl .nil) rfl (h.retP (by unfold cq; rfl) (by unfold cq; exact ⟨s1,za.2⟩))
def aB (a:GQ) (b:GQ):GQ :=
 (be a (cq b))
theorem dM (a:GQ) (b:GQ) (k:Nat) (hk:(k+3)≤40) (za:SzQ (k+3) a) (zb:SzQ (k+3) b) (w0:World):Calls zP 22 #[(vQ a),(vQ b)] w0 (RetP w0 (vQ (aB a b)) (SzQ k (aB a b))):=by
 refine enter (N:=9) Tryz.func22 rfl rfl ?_; intro ac h
 have s1:=ay ((ji b (k+3) og zb) w0)
 have s2:=ay ((dq a (cq b) k og za s1) w0)
 refine gz h <| (xb) fun b1=>(xb) fun b2=>(xa) fun b3=>(dr1 (H:=[⟨.blk b3 (cQ oQ) 27,[(4,.con (.blk b3 (cQ (be a (cq b))) 27))]⟩,⟨_,[]⟩,⟨_,[]⟩]) (hob:=(oK (ji b (k+3) og zb)) <| (oK (dq a (cq b) k og za s1)) <| oE)) <| (W) ?_; clear h; intro _ _ h
 exact ret h rfl (.cell (v:=(vQ (be a (cq b)))) rfl (i:=0) rfl aa27 zz27 rfl rfl rfl .nil) rfl (h.retP (by unfold aB; rfl) (by unfold aB; exact s2))
def aD (a:GQ) (b:GQ):GQ :=
 (bH (ab a.num b.num) (ab (aa a) (aa b)))
theorem bP (a:GQ) (b:GQ) (k:Nat) (hk:(k+2)≤40) (za:SzQ (k+2) a) (zb:SzQ (k+2) b) (w0:World):Calls zP 21 #[(vQ a),(vQ b)] w0 (RetP w0 (vQ (aD a b)) (SzQ k (aD a b))):=by
 refine enter (N:=16) Tryz.func21 rfl rfl ?_; intro ac h
 have s1:=ay ((cA a.num b.num (k+1) og za.1 zb.1) w0)
 have s2:=ay ((cd a (k+2) og za) w0)
 have s3:=ay ((cd b (k+2) og zb) w0)
 have s4:=ay ((cA (aa a) (aa b) (k+1) og s2 s3) w0)
 have s5:=ay ((eF (ab a.num b.num) (ab (aa a) (aa b)) k og s1 s4) w0)
 refine gz h <| (xb) fun b1=>(xb) fun b2=>(xa) fun b3=>(dr1 (H:=[⟨.blk b3 (cQ oQ) 27,[(11,.con (.blk b3 (cQ (bH (ab a.num b.num) (ab (aa a) (aa b)))) 27))]⟩,⟨_,[]⟩,⟨_,[]⟩]) (hob:=(oK (cA a.num b.num (k+1) og za.1 zb.1)) <| (oK (cd a (k+2) og za)) <| (oK (cd b (k+2) og zb)) <| (oK (cA (aa a) (aa b) (k+1) og s2 s3)) <| (oK (eF (ab a.num b.num) (ab (aa a) (aa b)) k og s1 s4)) <| oE)) <| (W) ?_; clear h; intro _ _ h
 exact ret h rfl (.cell (v:=(vQ (bH (ab a.num b.num) (ab (aa a) (aa b))))) rfl (i:=0) rfl aa27 zz27 rfl rfl rfl .nil) rfl (h.retP (by unfold aD; rfl) (by unfold aD; exact s5))
def aN (a:GQ):Int :=
 (dx a.num)
theorem dC (a:GQ) (w0:World):Calls zP 30 #[(vQ a)] w0 (RetP w0 (.int .i64 (aN a)) ((-1≤(aN a)∧(aN a)≤1))):=by
 refine enter (N:=6) Tryz.func30 rfl rfl ?_; intro ac h
 have p2:=ay ((eA a.num) w0)
 refine gz h <| (xb) fun b1=>(xk (eA a.num)) <| (W) ?_; clear h; intro _ _ h
 exact (rt h) (h.retP (by unfold aN; rfl) (by unfold aN; exact by first | omega | exact f9 og og))
def eS (a:GQ) (b:GQ):Int :=
 bif (decide (a=b)) then
  0
 else
  (dN ((aY a b).1) ((aY a b).2.1))
theorem ko (a:GQ) (b:GQ) (k:Nat) (hk:(k+1)≤40) (za:SzQ (k+1) a) (zb:SzQ (k+1) b) (w0:World):Calls zP 87 #[(vQ a),(vQ b)] w0 (RetP w0 (.int .i64 (eS a b)) ((-1≤(eS a b)∧(eS a b)≤1))):=by
 refine enter (N:=21) Tryz.func87 rfl rfl ?_; intro ac h
 refine gz h <| (xb) fun b1=>(xb) fun b2=>(ai) ?_ ?_ <;> clear h <;> intro _ _ h hc1
 ·
  have hd1:=of_decide_eq_true hc1
  have hd:eS a b=0:=pt
  exact (rx h) fun _ _ h=>(h.retP (by rw [hd] <;> rfl) (by rw [hd]; exact by first | omega | exact f9 og og))
 ·
  have hd1:=of_decide_eq_false hc1
  have c1:=lh a b k og za zb
  have s1:=ay (c1 w0)
  have p3:=ay ((iu ((aY a b).1) ((aY a b).2.1) k og s1.1 s1.2.1) w0)
  have hd:eS a b=(dN ((aY a b).1) ((aY a b).2.1)):=pt
  refine gz h <| (xk c1) <| (xa) fun b3=>(xa) fun b4=>(xa) fun b5=>(xk (iu ((aY a b).1) ((aY a b).2.1) k og s1.1 s1.2.1)) <| (W) ?_; clear h; intro _ _ h
  exact (rt h) (h.retP (by rw [hd] <;> rfl) (by rw [hd]; exact by first | omega | exact f9 og og))
def aC (c:GQ):Qd :=
 (⟨c,(⟨(⟨false,0⟩:GI),(⟨false,0⟩:GI)⟩:GQ),(⟨(⟨false,0⟩:GI),(⟨false,0⟩:GI)⟩:GQ)⟩:Qd)
theorem iB (c:GQ) (k:Nat) (hk:k≤40) (zc:SzQ k c) (w0:World):Calls zP 113 #[(vQ c)] w0 (RetP w0 (vD (aC c)) (SzD k (aC c))):=by
 refine enter (N:=5) Tryz.func113 rfl rfl ?_; intro ac h
 refine gz h <| (xb) fun b1=>(xa) fun b2=>(xo (hs:=by exact bM yF exs rfl (v:=(vD (⟨c,oQ,oQ⟩:Qd))) rfl)) <| (W) ?_; clear h; intro _ _ h
 exact ret h rfl (.cell (v:=(vD (⟨c,oQ,oQ⟩:Qd))) rfl (i:=0) rfl Tryz.isAgg53 Tryz.sizeOf53 rfl rfl rfl .nil) rfl (h.retP (by unfold aC; rfl) (by unfold aC; exact ⟨zc,⟨(bI 0 DC og),(bI 0 DC og)⟩,⟨(bI 0 DC og),(bI 0 DC og)⟩⟩))
end Go.Sx
