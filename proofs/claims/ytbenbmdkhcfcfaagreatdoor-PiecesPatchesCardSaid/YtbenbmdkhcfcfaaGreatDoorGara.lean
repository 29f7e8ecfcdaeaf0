import Derived.Test.YtbenbmdkhcfcfaaGreatDoorProg
import Derived.Test.YtbenbmdkhcfcfaaGreatDoorGdiv
set_option linter.unusedVariables false
set_option linter.unusedSimpArgs false
open Go.Proofs.Tryz renaming prog → zP, isAgg4 → aa4, underlying4 → nn4, isAgg9 → aa9, isAgg25 → aa25, sizeOf25 → zz25, isAgg27 → aa27, sizeOf27 → zz27
namespace Go.Sx
open Go Go.RowKit Go.Proofs
set_option maxRecDepth 100000
set_option maxHeartbeats 40000000
attribute [local irreducible] Code.wp wpList Rd gW ObS Ent
theorem eqi25:EqIn zP 2 25 vI:=eqS (c:=cI) (fun _=>rfl) Tryz.underlying25 Tryz.stoodInHeld25 fun d x y w hd=>by
 refine Eq.trans (eqF DC (ip aa4 rfl w) (ip aa4 rfl w) (eqB nn4 d og _ _ w) (eqF DC (ip aa9 rfl w) (ip aa9 rfl w) (eqBs Tryz.underlying9 d og _ _ w) eqF0)) ?_
 congr 1
 rw [decide_eq_decide]
 cases x; cases y; simp
theorem eqp25:EqP zP 25 vI:=EqIn.p (k:=2) rfl (c:=fun x=>(cI x).toArray) (fun _=>rfl) Tryz.eqGuardType25 eqi25
instance zi33:Ep zP 25 GI inferInstance vI:=⟨eqp25⟩
theorem wl:EqIn zP 3 27 vQ:=eqS (c:=cQ) (fun _=>rfl) Tryz.underlying27 Tryz.stoodInHeld27 fun d x y w hd=>by
 refine Eq.trans (eqF DC (eV aa25 zz25 (v:=vI (x.num)) rfl w) (eV aa25 zz25 (v:=vI (y.num)) rfl w) (eqi25 d _ _ w og) (eqF DC (eV aa25 zz25 (v:=vI (x.den)) rfl w) (eV aa25 zz25 (v:=vI (y.den)) rfl w) (eqi25 d _ _ w og) eqF0)) ?_
 congr 1
 rw [decide_eq_decide]
 cases x; cases y; simp
theorem eqp27:EqP zP 27 vQ:=EqIn.p (k:=3) rfl (c:=fun x=>(cQ x).toArray) (fun _=>rfl) Tryz.eqGuardType27 wl
instance zi34:Ep zP 27 GQ inferInstance vQ:=⟨eqp27⟩
theorem eqi53:EqIn zP 4 53 vD:=eqS (c:=cD) (fun _=>rfl) Tryz.underlying53 Tryz.stoodInHeld53 fun d x y w hd=>by
 refine Eq.trans (eqF DC (eV aa27 zz27 (v:=vQ (x.c0)) rfl w) (eV aa27 zz27 (v:=vQ (y.c0)) rfl w) (wl d _ _ w og) (eqF DC (eV aa27 zz27 (v:=vQ (x.c1)) rfl w) (eV aa27 zz27 (v:=vQ (y.c1)) rfl w) (wl d _ _ w og) (eqF DC (eV aa27 zz27 (v:=vQ (x.c2)) rfl w) (eV aa27 zz27 (v:=vQ (y.c2)) rfl w) (wl d _ _ w og) eqF0))) ?_
 congr 1
 rw [decide_eq_decide]
 cases x; cases y; simp
theorem eqp53:EqP zP 53 vD:=EqIn.p (k:=4) rfl (c:=fun x=>(cD x).toArray) (fun _=>rfl) Tryz.eqGuardType53 eqi53
instance zi35:Ep zP 53 Qd inferInstance vD:=⟨eqp53⟩
theorem yj:EqIn zP 4 71 vR:=eqS (c:=cR) (fun _=>rfl) Tryz.underlying71 Tryz.stoodInHeld71 fun d x y w hd=>by
 refine Eq.trans (eqF DC (eV aa27 zz27 (v:=vQ (x.p)) rfl w) (eV aa27 zz27 (v:=vQ (y.p)) rfl w) (wl d _ _ w og) (eqF DC (eV aa27 zz27 (v:=vQ (x.r)) rfl w) (eV aa27 zz27 (v:=vQ (y.r)) rfl w) (wl d _ _ w og) (eqF DC (ip aa4 rfl w) (ip aa4 rfl w) (eqB nn4 d og _ _ w) eqF0))) ?_
 congr 1
 rw [decide_eq_decide]
 cases x; cases y; simp
theorem eqp71:EqP zP 71 vR:=EqIn.p (k:=4) rfl (c:=fun x=>(cR x).toArray) (fun _=>rfl) Tryz.eqGuardType71 yj
instance zi36:Ep zP 71 GR inferInstance vR:=⟨eqp71⟩
def dp (a:GI):Int :=
 bif (decide (a.mag=0)) then
  0
 else
  bif a.neg then
   (-1)
  else
   1
theorem eu (a:GI) (w0:World):Calls zP 115 #[(vI a)] w0 (RetP w0 (.int .i64 (dp a)) ((-1≤(dp a)∧(dp a)≤1))):=by
 refine enter (N:=10) Tryz.func115 rfl rfl ?_; intro ac h
 refine gz h <| (xb) fun b1=>(ai) ?_ ?_ <;> clear h <;> intro _ _ h hc1
 ·
  have hd1:=of_decide_eq_true hc1
  have hd:dp a=0:=pt
  exact (rx h) fun _ _ h=>(h.retP (by rw [hd] <;> rfl) (by rw [hd]; exact by first | omega | exact fZ og og))
 ·
  have hd1:=of_decide_eq_false hc1
  refine gz h <| (ai) ?_ ?_ <;> clear h <;> intro _ _ h hc2
  ·
   have hd:dp a=(-1):=pt
   exact (rx h) fun _ _ h=>(h.retP (by rw [hd] <;> rfl) (by rw [hd]; exact by first | omega | exact fZ og og))
  ·
   have hd:dp a=1:=pt
   exact (rx h) fun _ _ h=>(h.retP (by rw [hd] <;> rfl) (by rw [hd]; exact by first | omega | exact fZ og og))
def ax (a:GI):GI :=
 (aQ (!a.neg) a.mag)
theorem fd (a:GI) (k:Nat) (hk:k≤40) (za:SzI k a) (w0:World):Calls zP 161 #[(vI a)] w0 (RetP w0 (vI (ax a)) (SzI k (ax a))):=by
 refine enter (N:=9) Tryz.func161 rfl rfl ?_; intro ac h
 have c1:=cg (!a.neg) a.mag k og za
 have s1:=au (c1 w0)
 refine gz h <| (xb) fun b1=>(xa) fun b2=>(xk c1) <| (W) ?_; clear h; intro _ _ h
 exact ret h rfl (.cell (v:=(vI (aQ (!a.neg) a.mag))) rfl (i:=0) rfl aa25 zz25 rfl rfl rfl .nil) rfl (h.retP (by unfold ax; rfl) (by unfold ax; exact s1))
def dN (a:GI) (b:GI):Int :=
 bif (a.neg != b.neg) then
  (c8 (dp a) (dp b))
 else
  bif a.neg then
   -(bq a.mag b.mag)
  else
   (bq a.mag b.mag)
theorem iq (a:GI) (b:GI) (k:Nat) (hk:k≤40) (za:SzI k a) (zb:SzI k b) (w0:World):Calls zP 158 #[(vI a),(vI b)] w0 (RetP w0 (.int .i64 (dN a b)) ((-1≤(dN a b)∧(dN a b)≤1))):=by
 refine enter (N:=26) Tryz.func158 rfl rfl ?_; intro ac h
 refine gz h <| (xb) fun b1=>(xb) fun b2=>(xo (hs:=by exact sA nn4 rfl rfl)) <| (ai) ?_ ?_ <;> clear h <;> intro _ _ h hc1
 ·
  refine gz h <| (W) ?_; clear h; intro _ _ h
  have p2:=au ((eu a) w0)
  have p4:=au ((eu b) w0)
  have p6:=au ((lz (dp a) (dp b)) w0)
  have hd:dN a b=(c8 (dp a) (dp b)):=pt
  refine gz h <| (dr0 (hob:=(oK (eu a)) <| (oK (eu b)) <| (oK (lz (dp a) (dp b))) <| oE)) <| (W) ?_; clear h; intro _ _ h
  exact (rt h) (h.retP (by rw [hd] <;> rfl) (by rw [hd]; exact by first | omega | exact fZ og og))
 ·
  have p8:=au ((ed a.mag b.mag) w0)
  refine gz h <| (xk (ed a.mag b.mag)) <| (ai) ?_ ?_ <;> clear h <;> intro _ _ h hc2
  ·
   have hd:dN a b=-(bq a.mag b.mag):=pt
   refine gz h <| (xo (hs:=by exact r_neg rfl (r:=-(bq a.mag b.mag)) (by rw [IntKind.wrap_i64]; omega))) <| (W) ?_; clear h; intro _ _ h
   exact (rt h) (h.retP (by rw [hd] <;> rfl) (by rw [hd]; exact by first | omega | exact fZ og og))
  ·
   have hd:dN a b=(bq a.mag b.mag):=pt
   exact (rx h) fun _ _ h=>(h.retP (by rw [hd] <;> rfl) (by rw [hd]; exact by first | omega | exact fZ og og))
def aH (a:GI) (b:GI):GI :=
 bif (a.neg == b.neg) then
  (aQ a.neg (da a.mag b.mag))
 else
  bif (decide ((bq a.mag b.mag)≥0)) then
   (aQ a.neg (dr a.mag b.mag))
  else
   (aQ b.neg (dr b.mag a.mag))
theorem fk (a:GI) (b:GI) (k:Nat) (hk:(k+1)≤40) (za:SzI (k+1) a) (zb:SzI (k+1) b) (w0:World):Calls zP 96 #[(vI a),(vI b)] w0 (RetP w0 (vI (aH a b)) (SzI k (aH a b))):=by
 refine enter (N:=42) Tryz.func96 rfl rfl ?_; intro ac h
 refine gz h <| (xb) fun b1=>(xb) fun b2=>(xa) fun b3=>(xo (hs:=by exact xu nn4 rfl rfl)) <| (ai) ?_ ?_ <;> clear h <;> intro _ _ h hc1
 ·
  have hd1:=eq_of_beq hc1
  refine gz h <| (W) ?_; clear h; intro _ _ h
  have s1:=au ((iW a.mag b.mag k og za zb) w0)
  have s2:=au ((cg a.neg (da a.mag b.mag) k og s1) w0)
  have hd:aH a b=(aQ a.neg (da a.mag b.mag)):=pt
  refine gz h <| (dr1 (H:=[⟨.blk b3 (cI (⟨false,0⟩:GI)) 25,[(8,.con (.blk b3 (cI (aQ a.neg (da a.mag b.mag))) 25))]⟩,⟨_,[]⟩,⟨_,[]⟩]) (hob:=(oK (iW a.mag b.mag k og za zb)) <| (oK (cg a.neg (da a.mag b.mag) k og s1)) <| oE)) <| (W) ?_; clear h; intro _ _ h
  exact ret h rfl (.cell (v:=(vI (aQ a.neg (da a.mag b.mag)))) rfl (i:=0) rfl aa25 zz25 rfl rfl rfl .nil) rfl (h.retP (by rw [hd] <;> rfl) (by rw [hd]; exact s2))
 ·
  have hd1:=ne_of_beq_false hc1
  have p4:=au ((ed a.mag b.mag) w0)
  refine gz h <| (xk (ed a.mag b.mag)) <| (ai) ?_ ?_ <;> clear h <;> intro _ _ h hc2
  ·
   have hd2:=of_decide_eq_true hc2
   refine gz h <| (W) ?_; clear h; intro _ _ h
   have s5:=au ((ik a.mag b.mag (k+1) og za zb (by first | exact vj ‹_› | exact vi ‹_›)) w0)
   have s6:=au ((cg a.neg (dr a.mag b.mag) (k+1) og s5) w0)
   have hd:aH a b=(aQ a.neg (dr a.mag b.mag)):=pt
   refine gz h <| (dr1 (H:=[⟨.blk b3 (cI (⟨false,0⟩:GI)) 25,[(8,.con (.blk b3 (cI (aQ a.neg (dr a.mag b.mag))) 25))]⟩,⟨_,[]⟩,⟨_,[]⟩]) (hob:=(oK (ik a.mag b.mag (k+1) og za zb (by first | exact vj ‹_› | exact vi ‹_›))) <| (oK (cg a.neg (dr a.mag b.mag) (k+1) og s5)) <| oE)) <| (W) ?_; clear h; intro _ _ h
   exact ret h rfl (.cell (v:=(vI (aQ a.neg (dr a.mag b.mag)))) rfl (i:=0) rfl aa25 zz25 rfl rfl rfl .nil) rfl (h.retP (by rw [hd] <;> rfl) (by rw [hd]; exact (gm s6 og)))
  ·
   have hd2:=of_decide_eq_false hc2
   refine gz h <| (W) ?_; clear h; intro _ _ h
   have s7:=au ((ik b.mag a.mag (k+1) og zb za (by first | exact vj ‹_› | exact vi ‹_›)) w0)
   have s8:=au ((cg b.neg (dr b.mag a.mag) (k+1) og s7) w0)
   have hd:aH a b=(aQ b.neg (dr b.mag a.mag)):=pt
   refine gz h <| (dr1 (H:=[⟨.blk b3 (cI (⟨false,0⟩:GI)) 25,[(8,.con (.blk b3 (cI (aQ b.neg (dr b.mag a.mag))) 25))]⟩,⟨_,[]⟩,⟨_,[]⟩]) (hob:=(oK (ik b.mag a.mag (k+1) og zb za (by first | exact vj ‹_› | exact vi ‹_›))) <| (oK (cg b.neg (dr b.mag a.mag) (k+1) og s7)) <| oE)) <| (W) ?_; clear h; intro _ _ h
   exact ret h rfl (.cell (v:=(vI (aQ b.neg (dr b.mag a.mag)))) rfl (i:=0) rfl aa25 zz25 rfl rfl rfl .nil) rfl (h.retP (by rw [hd] <;> rfl) (by rw [hd]; exact (gm s8 og)))
def ab (a:GI) (b:GI):GI :=
 (aQ (a.neg != b.neg) (fP a.mag b.mag))
theorem cz (a:GI) (b:GI) (k:Nat) (hk:(k+1)≤40) (za:SzI (k+1) a) (zb:SzI (k+1) b) (w0:World):Calls zP 97 #[(vI a),(vI b)] w0 (RetP w0 (vI (ab a b)) (SzI k (ab a b))):=by
 refine enter (N:=16) Tryz.func97 rfl rfl ?_; intro ac h
 have s1:=au ((kW a.mag b.mag k og za zb) w0)
 have s2:=au ((cg (a.neg != b.neg) (fP a.mag b.mag) k og s1) w0)
 refine gz h <| (xb) fun b1=>(xb) fun b2=>(xa) fun b3=>(dr1 (H:=[⟨.blk b3 (cI (⟨false,0⟩:GI)) 25,[(11,.con (.blk b3 (cI (aQ (a.neg != b.neg) (fP a.mag b.mag))) 25))]⟩,⟨_,[]⟩,⟨_,[]⟩]) (hob:=(oX (h:=by exact fun _=>bg (sA nn4 rfl rfl))) <| (oK (kW a.mag b.mag k og za zb)) <| (oK (cg (a.neg != b.neg) (fP a.mag b.mag) k og s1)) <| oE)) <| (W) ?_; clear h; intro _ _ h
 exact ret h rfl (.cell (v:=(vI (aQ (a.neg != b.neg) (fP a.mag b.mag)))) rfl (i:=0) rfl aa25 zz25 rfl rfl rfl .nil) rfl (h.retP (by unfold ab; rfl) (by unfold ab; exact s2))
def a8 (a b:GI):GI:=aQ false (Nat.gcd a.mag b.mag)
theorem u3 (x y:Nat):Nat.gcd y (x % y)=Nat.gcd x y:=by rw [Nat.gcd_comm x y,Nat.gcd_rec y x,Nat.gcd_comm]
theorem jR (a:GI) (b:GI) (k:Nat) (hk:k≤40) (za:SzI k a) (zb:SzI k b) (w0:World):Calls zP 160 #[(vI a),(vI b)] w0 (RetP w0 (vI (a8 a b)) (SzI k (a8 a b))):=by
 refine enter (N:=45) Tryz.func160 rfl rfl ?_; intro ac h
 refine gz h <| (xb) fun b1=>(xb) fun b2=>(xa) fun b3=>(dr0 (hob:=oE)) <| (W) ?_; clear h; intro _ _ h
 refine wp_loop_ghost (fun n_ a_ w_=>∃ (x:Nat) (y:Nat),n_=1*y∧(Nat.gcd x y=Nat.gcd a.mag b.mag)∧(SzB k x)∧(SzB k y)∧St w0 45 [(4,(ptr b3 0)),(5,(.string (bs x))),(6,(.string (bs y)))] [.blk b3 (cI (⟨false,0⟩:GI)) 25,.blk b2 (cI b) 25,.blk b1 (cI a) 25] a_ w_) _ ⟨a.mag,b.mag,rfl,rfl,za,zb,h.re [0,1,2]⟩ ?_
 clear h; rintro _ _ _ ⟨x,y,rfl,hg,zx,zy,h⟩
 refine gz h <| (ai) ?_ ?_ <;> clear h <;> intro _ _ h hc1
 ·
  have hy:y≠0:=by simpa using hc1
  refine gz h <| (xk (ib x y)) <| (ai) ?_ ?_ <;> clear h <;> intro _ _ h hc2
  ·
   obtain ⟨ha6,hb6,hw⟩:=l8 hc2
   simp only [hw] at h
   refine gz h <| (W) ?_; clear h; intro _ _ h
   refine wp_loop_ghost (fun n_ a_ w_=>∃ (u:Nat) (v:Nat),n_=1*v∧(Nat.gcd u v=Nat.gcd a.mag b.mag)∧(SzB k u)∧(SzB k v)∧(u < 18446744073709551616∧v < 18446744073709551616)∧St w0 45 [(4,(ptr b3 0)),(7,(.int .u64 (u:Int))),(8,(.int .u64 (v:Int)))] [.blk b3 (cI (⟨false,0⟩:GI)) 25,.blk b2 (cI b) 25,.blk b1 (cI a) 25] a_ w_) _ ⟨x,y,rfl,hg,zx,zy,⟨ha6,hb6⟩,h.re [0,1,2]⟩ ?_
   clear h; rintro _ _ _ ⟨u,v,rfl,hgu,zu,zv,hul,h⟩
   refine gz h <| (ai) ?_ ?_ <;> clear h <;> intro _ _ h hc3
   ·
    have hv:v≠0:=by have:=hc3; simp at this; omega
    refine gz h <| (dr0 (hob:=(oX (h:=by exact fun _=>bg (j6 rfl rfl (r:=((u % v:Nat):Int)) og (by rw [Int.tmod_eq_emod_of_nonneg og]; rfl)))) <| oE)) <| (W) ?_; clear h; intro _ _ h
    exact aD ⟨_,(by have:=Nat.mod_lt u (show v>0 by omega); omega),v,(u % v),rfl,(by rw [u3]; exact hgu),zv,(iZ zu (Nat.mod_le _ _)),⟨hul.2,by have:=Nat.mod_lt u (show v>0 by omega); omega⟩,h.re [0,1,2]⟩
   ·
    have hv:v=0:=by have:=hc3; simp at this; omega
    subst hv
    have c1:=cg false (bO u) k og zu
    have s1:=au (c1 w0)
    have hd:a8 a b=(aQ false (bO u)):=(by rw [Nat.gcd_zero_right] at hgu; unfold a8; rw [← hgu]; rfl)
    refine gz h <| (xk (dy u hul.1)) <| (xk c1) <| (W) ?_; clear h; intro _ _ h
    exact ret h rfl (.cell (v:=(vI (aQ false (bO u)))) rfl (i:=0) rfl aa25 zz25 rfl rfl rfl .nil) rfl (h.retP (by rw [hd] <;> rfl) (by rw [hd]; exact s1))
  ·
   have c2:=jQ x y k og zx zy og
   have s2:=au (c2 w0)
   refine gz h <| (xk c2) <| (W) ?_; clear h; intro _ _ h
   exact aD ⟨_,(by have:=Nat.mod_lt x (show y>0 by omega); omega),y,(x % y),rfl,(by rw [u3]; exact hg),zy,(iZ zx (Nat.mod_le _ _)),h.re [0,1,2]⟩
 ·
  have hy:y=0:=by simpa using hc1
  subst hy
  have c3:=cg false x k og zx
  have s3:=au (c3 w0)
  have hd:a8 a b=(aQ false x):=(by rw [Nat.gcd_zero_right] at hg; unfold a8; rw [← hg])
  refine gz h <| (xk c3) <| (W) ?_; clear h; intro _ _ h
  exact ret h rfl (.cell (v:=(vI (aQ false x))) rfl (i:=0) rfl aa25 zz25 rfl rfl rfl .nil) rfl (h.retP (by rw [hd] <;> rfl) (by rw [hd]; exact s3))
def aR (a:GI) (b:GI):GI×GI×Int :=
 bif (decide (b.mag=0)) then
  ((⟨false,0⟩:GI),(⟨false,0⟩:GI),6)
 else
  bif (a.neg && (!(decide (((br a.mag b.mag).2)=0)))) then
   ((aQ (a.neg != b.neg) (da ((br a.mag b.mag).1) 1)),(aQ false (dr b.mag ((br a.mag b.mag).2))),0)
  else
   ((aQ (a.neg != b.neg) ((br a.mag b.mag).1)),(aQ false ((br a.mag b.mag).2)),0)
theorem gU (a:GI) (b:GI) (k:Nat) (hk:(k+1)≤40) (za:SzI (k+1) a) (zb:SzI (k+1) b) (w0:World):Calls zP 253 #[(vI a),(vI b)] w0 (RetP w0 (.tuple #[(vI ((aR a b).1)),(vI ((aR a b).2.1)),(.int .i64 ((aR a b).2.2))]) (SzI k ((aR a b).1)∧SzI k ((aR a b).2.1))):=by
 refine enter (N:=43) Tryz.func253 rfl rfl ?_; intro ac h
 refine gz h <| (xb) fun b1=>(xb) fun b2=>(xa) fun b3=>(xa) fun b4=>(ai) ?_ ?_ <;> clear h <;> intro _ _ h hc1
 ·
  have hd1:=of_decide_eq_true hc1
  have hd:aR a b=((⟨false,0⟩:GI),(⟨false,0⟩:GI),6):=pt
  refine gz h <| (xo (hs:=by exact bN qB exs rfl (v:=(vI (⟨false,0⟩:GI))) rfl)) <| (xo (hs:=by exact bN qB exs rfl (v:=(vI (⟨false,0⟩:GI))) rfl)) <| (W) ?_; clear h; intro _ _ h
  exact ret h rfl (.cell (v:=(vI (⟨false,0⟩:GI))) rfl (i:=1) rfl aa25 zz25 rfl rfl rfl (.cell (v:=(vI (⟨false,0⟩:GI))) rfl (i:=0) rfl aa25 zz25 rfl rfl rfl (.tmp rfl .nil))) rfl (h.retP (by rw [hd] <;> rfl) (by rw [hd]; exact ⟨(bJ 0 DC og),(bJ 0 DC og)⟩))
 ·
  have hd1:=of_decide_eq_false hc1
  have c1:=jQ a.mag b.mag (k+1) og za zb og
  have s1:=au (c1 w0)
  refine gz h <| (xk c1) <| (ai) ?_ ?_ <;> clear h <;> intro _ _ h hc2
  ·
   have s2:=au ((iW ((br a.mag b.mag).1) 1 k og s1.1 (bJ 1 DC og)) w0)
   have s3:=au ((ik b.mag ((br a.mag b.mag).2) (k+1) og zb s1.2 (Nat.le_of_lt (Nat.mod_lt _ og))) w0)
   refine gz h <| (dr0 (hob:=(oK (iW ((br a.mag b.mag).1) 1 k og s1.1 (bJ 1 DC og))) <| (oK (ik b.mag ((br a.mag b.mag).2) (k+1) og zb s1.2 (Nat.le_of_lt (Nat.mod_lt _ og)))) <| oE)) <| (W) ?_; clear h; intro _ _ h
   have c4:=cg (a.neg != b.neg) (da ((br a.mag b.mag).1) 1) k og s2
   have s4:=au (c4 w0)
   have c5:=cg false (dr b.mag ((br a.mag b.mag).2)) (k+1) og s3
   have s5:=au (c5 w0)
   have hd:aR a b=((aQ (a.neg != b.neg) (da ((br a.mag b.mag).1) 1)),(aQ false (dr b.mag ((br a.mag b.mag).2))),0):=pt
   refine gz h <| (xo (hs:=by exact sA nn4 rfl rfl)) <| (xk c4) <| (xk c5) <| (W) ?_; clear h; intro _ _ h
   exact ret h rfl (.cell (v:=(vI (aQ (a.neg != b.neg) (da ((br a.mag b.mag).1) 1)))) rfl (i:=1) rfl aa25 zz25 rfl rfl rfl (.cell (v:=(vI (aQ false (dr b.mag ((br a.mag b.mag).2))))) rfl (i:=0) rfl aa25 zz25 rfl rfl rfl (.tmp rfl .nil))) rfl (h.retP (by rw [hd] <;> rfl) (by rw [hd]; exact ⟨s4,(gm s5 og)⟩))
  ·
   have c6:=cg (a.neg != b.neg) ((br a.mag b.mag).1) (k+1) og s1.1
   have s6:=au (c6 w0)
   have c7:=cg false ((br a.mag b.mag).2) (k+1) og s1.2
   have s7:=au (c7 w0)
   have hd:aR a b=((aQ (a.neg != b.neg) ((br a.mag b.mag).1)),(aQ false ((br a.mag b.mag).2)),0):=pt
   refine gz h <| (xo (hs:=by exact sA nn4 rfl rfl)) <| (xk c6) <| (xk c7) <| (W) ?_; clear h; intro _ _ h
   exact ret h rfl (.cell (v:=(vI (aQ (a.neg != b.neg) ((br a.mag b.mag).1)))) rfl (i:=1) rfl aa25 zz25 rfl rfl rfl (.cell (v:=(vI (aQ false ((br a.mag b.mag).2)))) rfl (i:=0) rfl aa25 zz25 rfl rfl rfl (.tmp rfl .nil))) rfl (h.retP (by rw [hd] <;> rfl) (by rw [hd]; exact ⟨(gm s6 og),(gm s7 og)⟩))
def rational_one :GI :=
 (aq 1)
theorem fq (k:Nat) (hk:k≤40) (w0:World):Calls zP 159 #[] w0 (RetP w0 (vI rational_one) (SzI k rational_one)):=by
 refine enter (N:=2) Tryz.func159 rfl rfl ?_; intro ac h
 have c1:=ee 1 k og  og
 have s1:=au (c1 w0)
 refine gz h <| (xa) fun b1=>(xk c1) <| (W) ?_; clear h; intro _ _ h
 exact ret h rfl (.cell (v:=(vI (aq 1))) rfl (i:=0) rfl aa25 zz25 rfl rfl rfl .nil) rfl (h.retP (by unfold rational_one; rfl) (by unfold rational_one; exact s1))
def ah (n:Int):GQ :=
 (⟨(aq n),(⟨false,0⟩:GI)⟩:GQ)
theorem bR (n:Int) (k:Nat) (hk:k≤40) (hn:-9223372036854775808≤n∧n≤9223372036854775807) (w0:World):Calls zP 85 #[(.int .i64 n)] w0 (RetP w0 (vQ (ah n)) (SzQ k (ah n))):=by
 refine enter (N:=6) Tryz.func85 rfl rfl ?_; intro ac h
 have c1:=ee n k og  og
 have s1:=au (c1 w0)
 refine gz h <| (xa) fun b1=>(xk c1) <| (xo (hs:=by exact bN qg exs rfl (v:=(vQ (⟨(aq n),(⟨false,0⟩:GI)⟩:GQ))) rfl)) <| (W) ?_; clear h; intro _ _ h
 exact ret h rfl (.cell (v:=(vQ (⟨(aq n),(⟨false,0⟩:GI)⟩:GQ))) rfl (i:=0) rfl aa27 zz27 rfl rfl rfl .nil) rfl (h.retP (by unfold ah; rfl) (by unfold ah; exact ⟨s1,(bJ 0 DC og)⟩))
def aa (a:GQ):GI :=
 bif (decide (a.den=(⟨false,0⟩:GI))) then
  rational_one
 else
  a.den
theorem cc (a:GQ) (k:Nat) (hk:k≤40) (za:SzQ k a) (w0:World):Calls zP 98 #[(vQ a)] w0 (RetP w0 (vI (aa a)) (SzI k (aa a))):=by
 refine enter (N:=10) Tryz.func98 rfl rfl ?_; intro ac h
 refine gz h <| (xb) fun b1=>(xa) fun b2=>(xo (hs:=by exact bN qB exs rfl (v:=(vI (⟨false,0⟩:GI))) rfl)) <| (ai) ?_ ?_ <;> clear h <;> intro _ _ h hc1
 ·
  have hd1:=of_decide_eq_true hc1
  have c1:=fq  k og
  have s1:=au (c1 w0)
  have hd:aa a=rational_one:=pt
  refine gz h <| (xk c1) <| (W) ?_; clear h; intro _ _ h
  exact ret h rfl (.cell (v:=(vI rational_one)) rfl (i:=0) rfl aa25 zz25 rfl rfl rfl .nil) rfl (h.retP (by rw [hd] <;> rfl) (by rw [hd]; exact s1))
 ·
  have hd1:=of_decide_eq_false hc1
  have hd:aa a=a.den:=pt
  refine gz h <| (W) ?_; clear h; intro _ _ h
  exact ret h rfl (.cell (v:=(vI a.den)) rfl (i:=0) rfl aa25 zz25 rfl rfl rfl .nil) rfl (h.retP (by rw [hd] <;> rfl) (by rw [hd]; exact za.2))
def aP (a:GI) (b:GI):GI :=
 (aR a b).1
theorem dR (a:GI) (b:GI) (k:Nat) (hk:(k+1)≤40) (za:SzI (k+1) a) (zb:SzI (k+1) b) (w0:World):Calls zP 192 #[(vI a),(vI b)] w0 (RetP w0 (vI (aP a b)) (SzI k (aP a b))):=by
 refine enter (N:=16) Tryz.func192 rfl rfl ?_; intro ac h
 have c1:=gU a b k og za zb
 have s1:=au (c1 w0)
 refine gz h <| (xb) fun b1=>(xb) fun b2=>(xa) fun b3=>(xk c1) <| (xa) fun b4=>(xa) fun b5=>(W) ?_; clear h; intro _ _ h
 exact ret h rfl (.cell (v:=(vI ((aR a b).1))) rfl (i:=2) rfl aa25 zz25 rfl rfl rfl .nil) rfl (h.retP (by unfold aP; rfl) (by unfold aP; exact s1.1))
def bH (num:GI) (den:GI):GQ :=
 bif (decide ((dp den) < 0)) then
  bif (decide ((aP (ax den) (a8 (ax num) (ax den)))=rational_one)) then
   (⟨(aP (ax num) (a8 (ax num) (ax den))),(⟨false,0⟩:GI)⟩:GQ)
  else
   (⟨(aP (ax num) (a8 (ax num) (ax den))),(aP (ax den) (a8 (ax num) (ax den)))⟩:GQ)
 else
  bif (decide ((aP den (a8 num den))=rational_one)) then
   (⟨(aP num (a8 num den)),(⟨false,0⟩:GI)⟩:GQ)
  else
   (⟨(aP num (a8 num den)),(aP den (a8 num den))⟩:GQ)
theorem eC (num:GI) (den:GI) (k:Nat) (hk:(k+1)≤40) (znum:SzI (k+1) num) (zden:SzI (k+1) den) (w0:World):Calls zP 95 #[(vI num),(vI den)] w0 (RetP w0 (vQ (bH num den)) (SzQ k (bH num den))):=by
 refine enter (N:=29) Tryz.func95 rfl rfl ?_; intro ac h
 have p2:=au ((eu den) w0)
 refine gz h <| (xb) fun b1=>(xb) fun b2=>(xa) fun b3=>(xk (eu den)) <| (ai) ?_ ?_ <;> clear h <;> intro _ _ h hc1
 ·
  have hd1:=of_decide_eq_true hc1
  have s3:=au ((fd num (k+1) og znum) w0)
  have s4:=au ((fd den (k+1) og zden) w0)
  refine gz h <| (dr1 (H:=[⟨_,[]⟩,⟨.blk b2 (cI den) 25,[(5,.con (.blk b2 (cI (ax den)) 25))]⟩,⟨.blk b1 (cI num) 25,[(4,.con (.blk b1 (cI (ax num)) 25))]⟩]) (hob:=(oK (fd num (k+1) og znum)) <| (oK (fd den (k+1) og zden)) <| oE)) <| (W) ?_; clear h; intro _ _ h
  have c5:=jR (ax num) (ax den) (k+1) og s3 s4
  have s5:=au (c5 w0)
  have s6:=au ((dR (ax num) (a8 (ax num) (ax den)) k og s3 s5) w0)
  have s7:=au ((dR (ax den) (a8 (ax num) (ax den)) k og s4 s5) w0)
  refine gz h <| (xk c5) <| (xa) fun b4=>(dr1 (H:=[⟨_,[]⟩,⟨_,[]⟩,⟨.blk b2 (cI (ax den)) 25,[(7,.con (.blk b2 (cI (aP (ax den) (a8 (ax num) (ax den)))) 25))]⟩,⟨.blk b1 (cI (ax num)) 25,[(6,.con (.blk b1 (cI (aP (ax num) (a8 (ax num) (ax den)))) 25))]⟩]) (hob:=(oK (dR (ax num) (a8 (ax num) (ax den)) k og s3 s5)) <| (oK (dR (ax den) (a8 (ax num) (ax den)) k og s4 s5)) <| oE)) <| (W) ?_; clear h; intro _ _ h
  have s8:=au ((fq  (k+1) og ) w0)
  refine gz h <| (dr0 (hob:=(oK (fq  (k+1) og )) <| oE)) <| (ai) ?_ ?_ <;> clear h <;> intro _ _ h hc2
  ·
   have hd2:=of_decide_eq_true hc2
   have hd:bH num den=(⟨(aP (ax num) (a8 (ax num) (ax den))),(⟨false,0⟩:GI)⟩:GQ):=pt
   refine gz h <| (xo (hs:=by exact bN qB exs rfl (v:=(vI (⟨false,0⟩:GI))) rfl)) <| (xo (hs:=by exact bN qg exs rfl (v:=(vQ (⟨(aP (ax num) (a8 (ax num) (ax den))),(⟨false,0⟩:GI)⟩:GQ))) rfl)) <| (W) ?_; clear h; intro _ _ h
   exact ret h rfl (.cell (v:=(vQ (⟨(aP (ax num) (a8 (ax num) (ax den))),(⟨false,0⟩:GI)⟩:GQ))) rfl (i:=1) rfl aa27 zz27 rfl rfl rfl .nil) rfl (h.retP (by rw [hd] <;> rfl) (by rw [hd]; exact ⟨s6,(bJ 0 DC og)⟩))
  ·
   have hd2:=of_decide_eq_false hc2
   have hd:bH num den=(⟨(aP (ax num) (a8 (ax num) (ax den))),(aP (ax den) (a8 (ax num) (ax den)))⟩:GQ):=pt
   refine gz h <| (xo (hs:=by exact bN qg exs rfl (v:=(vQ (⟨(aP (ax num) (a8 (ax num) (ax den))),(aP (ax den) (a8 (ax num) (ax den)))⟩:GQ))) rfl)) <| (W) ?_; clear h; intro _ _ h
   exact ret h rfl (.cell (v:=(vQ (⟨(aP (ax num) (a8 (ax num) (ax den))),(aP (ax den) (a8 (ax num) (ax den)))⟩:GQ))) rfl (i:=1) rfl aa27 zz27 rfl rfl rfl .nil) rfl (h.retP (by rw [hd] <;> rfl) (by rw [hd]; exact ⟨s6,s7⟩))
 ·
  have hd1:=of_decide_eq_false hc1
  have c9:=jR num den (k+1) og znum zden
  have s9:=au (c9 w0)
  have s10:=au ((dR num (a8 num den) k og znum s9) w0)
  have s11:=au ((dR den (a8 num den) k og zden s9) w0)
  refine gz h <| (xk c9) <| (xa) fun b5=>(dr1 (H:=[⟨_,[]⟩,⟨_,[]⟩,⟨.blk b2 (cI den) 25,[(7,.con (.blk b2 (cI (aP den (a8 num den))) 25))]⟩,⟨.blk b1 (cI num) 25,[(6,.con (.blk b1 (cI (aP num (a8 num den))) 25))]⟩]) (hob:=(oK (dR num (a8 num den) k og znum s9)) <| (oK (dR den (a8 num den) k og zden s9)) <| oE)) <| (W) ?_; clear h; intro _ _ h
  have s12:=au ((fq  (k+1) og ) w0)
  refine gz h <| (dr0 (hob:=(oK (fq  (k+1) og )) <| oE)) <| (ai) ?_ ?_ <;> clear h <;> intro _ _ h hc3
  ·
   have hd3:=of_decide_eq_true hc3
   have hd:bH num den=(⟨(aP num (a8 num den)),(⟨false,0⟩:GI)⟩:GQ):=pt
   refine gz h <| (xo (hs:=by exact bN qB exs rfl (v:=(vI (⟨false,0⟩:GI))) rfl)) <| (xo (hs:=by exact bN qg exs rfl (v:=(vQ (⟨(aP num (a8 num den)),(⟨false,0⟩:GI)⟩:GQ))) rfl)) <| (W) ?_; clear h; intro _ _ h
   exact ret h rfl (.cell (v:=(vQ (⟨(aP num (a8 num den)),(⟨false,0⟩:GI)⟩:GQ))) rfl (i:=1) rfl aa27 zz27 rfl rfl rfl .nil) rfl (h.retP (by rw [hd] <;> rfl) (by rw [hd]; exact ⟨s10,(bJ 0 DC og)⟩))
  ·
   have hd3:=of_decide_eq_false hc3
   have hd:bH num den=(⟨(aP num (a8 num den)),(aP den (a8 num den))⟩:GQ):=pt
   refine gz h <| (xo (hs:=by exact bN qg exs rfl (v:=(vQ (⟨(aP num (a8 num den)),(aP den (a8 num den))⟩:GQ))) rfl)) <| (W) ?_; clear h; intro _ _ h
   exact ret h rfl (.cell (v:=(vQ (⟨(aP num (a8 num den)),(aP den (a8 num den))⟩:GQ))) rfl (i:=1) rfl aa27 zz27 rfl rfl rfl .nil) rfl (h.retP (by rw [hd] <;> rfl) (by rw [hd]; exact ⟨s10,s11⟩))
def a6 (a:GQ) (b:GQ):GI×GI×GI :=
 bif (decide (a.den=b.den)) then
  (a.num,b.num,(aa a))
 else
  ((ab a.num (aa b)),(ab b.num (aa a)),(ab (aa a) (aa b)))
theorem lh (a:GQ) (b:GQ) (k:Nat) (hk:(k+1)≤40) (za:SzQ (k+1) a) (zb:SzQ (k+1) b) (w0:World):Calls zP 94 #[(vQ a),(vQ b)] w0 (RetP w0 (.tuple #[(vI ((a6 a b).1)),(vI ((a6 a b).2.1)),(vI ((a6 a b).2.2))]) (SzI k ((a6 a b).1)∧SzI k ((a6 a b).2.1)∧SzI k ((a6 a b).2.2))):=by
 refine enter (N:=33) Tryz.func94 rfl rfl ?_; intro ac h
 refine gz h <| (xb) fun b1=>(xb) fun b2=>(xa) fun b3=>(xa) fun b4=>(xa) fun b5=>(ai) ?_ ?_ <;> clear h <;> intro _ _ h hc1
 ·
  have hd1:=of_decide_eq_true hc1
  refine gz h <| (W) ?_; clear h; intro _ _ h
  have s1:=au ((cc a (k+1) og za) w0)
  have hd:a6 a b=(a.num,b.num,(aa a)):=pt
  refine gz h <| (dr1 (H:=[⟨.blk b5 (cI (⟨false,0⟩:GI)) 25,[(8,.con (.blk b5 (cI (aa a)) 25))]⟩,⟨.blk b4 (cI (⟨false,0⟩:GI)) 25,[(7,.con (.blk b4 (cI b.num) 25))]⟩,⟨.blk b3 (cI (⟨false,0⟩:GI)) 25,[(6,.con (.blk b3 (cI a.num) 25))]⟩,⟨_,[]⟩,⟨_,[]⟩]) (hob:=(oK (cc a (k+1) og za)) <| oE)) <| (W) ?_; clear h; intro _ _ h
  exact ret h rfl (.cell (v:=(vI a.num)) rfl (i:=2) rfl aa25 zz25 rfl rfl rfl (.cell (v:=(vI b.num)) rfl (i:=1) rfl aa25 zz25 rfl rfl rfl (.cell (v:=(vI (aa a))) rfl (i:=0) rfl aa25 zz25 rfl rfl rfl .nil))) rfl (h.retP (by rw [hd] <;> rfl) (by rw [hd]; exact ⟨(fW za og).1,(fW zb og).1,(gm s1 og)⟩))
 ·
  have hd1:=of_decide_eq_false hc1
  refine gz h <| (W) ?_; clear h; intro _ _ h
  have s2:=au ((cc b (k+1) og zb) w0)
  have s3:=au ((cz a.num (aa b) k og za.1 s2) w0)
  have s4:=au ((cc a (k+1) og za) w0)
  have s5:=au ((cz b.num (aa a) k og zb.1 s4) w0)
  have s6:=au ((cc a (k+1) og za) w0)
  have s7:=au ((cc b (k+1) og zb) w0)
  have s8:=au ((cz (aa a) (aa b) k og s6 s7) w0)
  have hd:a6 a b=((ab a.num (aa b)),(ab b.num (aa a)),(ab (aa a) (aa b))):=pt
  refine gz h <| (dr1 (H:=[⟨.blk b5 (cI (⟨false,0⟩:GI)) 25,[(17,.con (.blk b5 (cI (ab (aa a) (aa b))) 25))]⟩,⟨.blk b4 (cI (⟨false,0⟩:GI)) 25,[(16,.con (.blk b4 (cI (ab b.num (aa a))) 25))]⟩,⟨.blk b3 (cI (⟨false,0⟩:GI)) 25,[(15,.con (.blk b3 (cI (ab a.num (aa b))) 25))]⟩,⟨_,[]⟩,⟨_,[]⟩]) (hob:=(oK (cc b (k+1) og zb)) <| (oK (cz a.num (aa b) k og za.1 s2)) <| (oK (cc a (k+1) og za)) <| (oK (cz b.num (aa a) k og zb.1 s4)) <| (oK (cc a (k+1) og za)) <| (oK (cc b (k+1) og zb)) <| (oK (cz (aa a) (aa b) k og s6 s7)) <| oE)) <| (W) ?_; clear h; intro _ _ h
  exact ret h rfl (.cell (v:=(vI (ab a.num (aa b)))) rfl (i:=2) rfl aa25 zz25 rfl rfl rfl (.cell (v:=(vI (ab b.num (aa a)))) rfl (i:=1) rfl aa25 zz25 rfl rfl rfl (.cell (v:=(vI (ab (aa a) (aa b)))) rfl (i:=0) rfl aa25 zz25 rfl rfl rfl .nil))) rfl (h.retP (by rw [hd] <;> rfl) (by rw [hd]; exact ⟨s3,s5,s8⟩))
def bc (a:GQ) (b:GQ):GQ :=
 (bH (aH ((a6 a b).1) ((a6 a b).2.1)) ((a6 a b).2.2))
theorem dl (a:GQ) (b:GQ) (k:Nat) (hk:(k+3)≤40) (za:SzQ (k+3) a) (zb:SzQ (k+3) b) (w0:World):Calls zP 20 #[(vQ a),(vQ b)] w0 (RetP w0 (vQ (bc a b)) (SzQ k (bc a b))):=by
 refine enter (N:=20) Tryz.func20 rfl rfl ?_; intro ac h
 have c1:=lh a b (k+2) og za zb
 have s1:=au (c1 w0)
 have s2:=au ((fk ((a6 a b).1) ((a6 a b).2.1) (k+1) og s1.1 s1.2.1) w0)
 have s3:=au ((eC (aH ((a6 a b).1) ((a6 a b).2.1)) ((a6 a b).2.2) k og s2 (gm s1.2.2 og)) w0)
 refine gz h <| (xb) fun b1=>(xb) fun b2=>(xa) fun b3=>(xk c1) <| (xa) fun b4=>(xa) fun b5=>(xa) fun b6=>(dr1 (H:=[⟨_,[]⟩,⟨_,[]⟩,⟨_,[]⟩,⟨.blk b3 (cQ oQ) 27,[(5,.con (.blk b3 (cQ (bH (aH ((a6 a b).1) ((a6 a b).2.1)) ((a6 a b).2.2))) 27))]⟩,⟨_,[]⟩,⟨_,[]⟩]) (hob:=(oK (fk ((a6 a b).1) ((a6 a b).2.1) (k+1) og s1.1 s1.2.1)) <| (oK (eC (aH ((a6 a b).1) ((a6 a b).2.1)) ((a6 a b).2.2) k og s2 (gm s1.2.2 og))) <| oE)) <| (W) ?_; clear h; intro _ _ h
 exact ret h rfl (.cell (v:=(vQ (bH (aH ((a6 a b).1) ((a6 a b).2.1)) ((a6 a b).2.2)))) rfl (i:=3) rfl aa27 zz27 rfl rfl rfl .nil) rfl (h.retP (by unfold bc; rfl) (by unfold bc; exact s3))
def cp (a:GQ):GQ :=
 (⟨(ax a.num),a.den⟩:GQ)
theorem jl (a:GQ) (k:Nat) (hk:k≤40) (za:SzQ k a) (w0:World):Calls zP 63 #[(vQ a)] w0 (RetP w0 (vQ (cp a)) (SzQ k (cp a))):=by
 refine enter (N:=9) Tryz.func63 rfl rfl ?_; intro ac h
 have s1:=au ((fd a.num k og za.1) w0)
 refine gz h <| (xb) fun b1=>(xa) fun b2=>(dr1 (H:=[⟨.blk b2 (cQ oQ) 27,[(6,.con (.blk b2 (cQ (⟨(ax a.num),a.den⟩:GQ)) 27))]⟩,⟨_,[]⟩]) (hob:=(oK (fd a.num k og za.1)) <| (oX (h:=by exact fun _=>bg (bN qg exs rfl (v:=(vQ (⟨(ax a.num),a.den⟩:GQ))) rfl))) <| oE)) <| (W) ?_; clear h; intro _ _ h
 exact ret h rfl (.cell (v:=(vQ (⟨(ax a.num),a.den⟩:GQ))) rfl (i:=0) rfl aa27 zz27 rfl rfl rfl .nil) rfl (h.retP (by unfold cp; rfl) (by unfold cp; exact ⟨s1,za.2⟩))
def aA (a:GQ) (b:GQ):GQ :=
 (bc a (cp b))
theorem dM (a:GQ) (b:GQ) (k:Nat) (hk:(k+3)≤40) (za:SzQ (k+3) a) (zb:SzQ (k+3) b) (w0:World):Calls zP 22 #[(vQ a),(vQ b)] w0 (RetP w0 (vQ (aA a b)) (SzQ k (aA a b))):=by
 refine enter (N:=9) Tryz.func22 rfl rfl ?_; intro ac h
 have s1:=au ((jl b (k+3) og zb) w0)
 have s2:=au ((dl a (cp b) k og za s1) w0)
 refine gz h <| (xb) fun b1=>(xb) fun b2=>(xa) fun b3=>(dr1 (H:=[⟨.blk b3 (cQ oQ) 27,[(4,.con (.blk b3 (cQ (bc a (cp b))) 27))]⟩,⟨_,[]⟩,⟨_,[]⟩]) (hob:=(oK (jl b (k+3) og zb)) <| (oK (dl a (cp b) k og za s1)) <| oE)) <| (W) ?_; clear h; intro _ _ h
 exact ret h rfl (.cell (v:=(vQ (bc a (cp b)))) rfl (i:=0) rfl aa27 zz27 rfl rfl rfl .nil) rfl (h.retP (by unfold aA; rfl) (by unfold aA; exact s2))
def aC (a:GQ) (b:GQ):GQ :=
 (bH (ab a.num b.num) (ab (aa a) (aa b)))
theorem bQ (a:GQ) (b:GQ) (k:Nat) (hk:(k+2)≤40) (za:SzQ (k+2) a) (zb:SzQ (k+2) b) (w0:World):Calls zP 21 #[(vQ a),(vQ b)] w0 (RetP w0 (vQ (aC a b)) (SzQ k (aC a b))):=by
 refine enter (N:=16) Tryz.func21 rfl rfl ?_; intro ac h
 have s1:=au ((cz a.num b.num (k+1) og za.1 zb.1) w0)
 have s2:=au ((cc a (k+2) og za) w0)
 have s3:=au ((cc b (k+2) og zb) w0)
 have s4:=au ((cz (aa a) (aa b) (k+1) og s2 s3) w0)
 have s5:=au ((eC (ab a.num b.num) (ab (aa a) (aa b)) k og s1 s4) w0)
 refine gz h <| (xb) fun b1=>(xb) fun b2=>(xa) fun b3=>(dr1 (H:=[⟨.blk b3 (cQ oQ) 27,[(11,.con (.blk b3 (cQ (bH (ab a.num b.num) (ab (aa a) (aa b)))) 27))]⟩,⟨_,[]⟩,⟨_,[]⟩]) (hob:=(oK (cz a.num b.num (k+1) og za.1 zb.1)) <| (oK (cc a (k+2) og za)) <| (oK (cc b (k+2) og zb)) <| (oK (cz (aa a) (aa b) (k+1) og s2 s3)) <| (oK (eC (ab a.num b.num) (ab (aa a) (aa b)) k og s1 s4)) <| oE)) <| (W) ?_; clear h; intro _ _ h
 exact ret h rfl (.cell (v:=(vQ (bH (ab a.num b.num) (ab (aa a) (aa b))))) rfl (i:=0) rfl aa27 zz27 rfl rfl rfl .nil) rfl (h.retP (by unfold aC; rfl) (by unfold aC; exact s5))
def aO (a:GQ):Int :=
 (dp a.num)
theorem dA (a:GQ) (w0:World):Calls zP 30 #[(vQ a)] w0 (RetP w0 (.int .i64 (aO a)) ((-1≤(aO a)∧(aO a)≤1))):=by
 refine enter (N:=6) Tryz.func30 rfl rfl ?_; intro ac h
 have p2:=au ((eu a.num) w0)
 refine gz h <| (xb) fun b1=>(xk (eu a.num)) <| (W) ?_; clear h; intro _ _ h
 exact (rt h) (h.retP (by unfold aO; rfl) (by unfold aO; exact by first | omega | exact fZ og og))
def eS (a:GQ) (b:GQ):Int :=
 bif (decide (a=b)) then
  0
 else
  (dN ((a6 a b).1) ((a6 a b).2.1))
theorem kr (a:GQ) (b:GQ) (k:Nat) (hk:(k+1)≤40) (za:SzQ (k+1) a) (zb:SzQ (k+1) b) (w0:World):Calls zP 87 #[(vQ a),(vQ b)] w0 (RetP w0 (.int .i64 (eS a b)) ((-1≤(eS a b)∧(eS a b)≤1))):=by
 refine enter (N:=21) Tryz.func87 rfl rfl ?_; intro ac h
 refine gz h <| (xb) fun b1=>(xb) fun b2=>(ai) ?_ ?_ <;> clear h <;> intro _ _ h hc1
 ·
  have hd1:=of_decide_eq_true hc1
  have hd:eS a b=0:=pt
  exact (rx h) fun _ _ h=>(h.retP (by rw [hd] <;> rfl) (by rw [hd]; exact by first | omega | exact fZ og og))
 ·
  have hd1:=of_decide_eq_false hc1
  have c1:=lh a b k og za zb
  have s1:=au (c1 w0)
  have p3:=au ((iq ((a6 a b).1) ((a6 a b).2.1) k og s1.1 s1.2.1) w0)
  have hd:eS a b=(dN ((a6 a b).1) ((a6 a b).2.1)):=pt
  refine gz h <| (xk c1) <| (xa) fun b3=>(xa) fun b4=>(xa) fun b5=>(xk (iq ((a6 a b).1) ((a6 a b).2.1) k og s1.1 s1.2.1)) <| (W) ?_; clear h; intro _ _ h
  exact (rt h) (h.retP (by rw [hd] <;> rfl) (by rw [hd]; exact by first | omega | exact fZ og og))
def az (c:GQ):Qd :=
 (⟨c,(⟨(⟨false,0⟩:GI),(⟨false,0⟩:GI)⟩:GQ),(⟨(⟨false,0⟩:GI),(⟨false,0⟩:GI)⟩:GQ)⟩:Qd)
theorem iz (c:GQ) (k:Nat) (hk:k≤40) (zc:SzQ k c) (w0:World):Calls zP 113 #[(vQ c)] w0 (RetP w0 (vD (az c)) (SzD k (az c))):=by
 refine enter (N:=5) Tryz.func113 rfl rfl ?_; intro ac h
 refine gz h <| (xb) fun b1=>(xa) fun b2=>(xo (hs:=by exact bN yU exs rfl (v:=(vD (⟨c,oQ,oQ⟩:Qd))) rfl)) <| (W) ?_; clear h; intro _ _ h
 exact ret h rfl (.cell (v:=(vD (⟨c,oQ,oQ⟩:Qd))) rfl (i:=0) rfl Tryz.isAgg53 Tryz.sizeOf53 rfl rfl rfl .nil) rfl (h.retP (by unfold az; rfl) (by unfold az; exact ⟨zc,⟨(bJ 0 DC og),(bJ 0 DC og)⟩,⟨(bJ 0 DC og),(bJ 0 DC og)⟩⟩))
end Go.Sx
