import Derived.Test.YtbenbmdkhcfcfaaGreatDoorEx
import Derived.Test.YtbenbmdkhcfcfaaGreatDoorGarith
import Derived.Test.YtbenbmdkhcfcfaaGreatDoorQ4
import Derived.Test.YtbenbmdkhcfcfaaGreatDoorL2
set_option linter.unusedVariables false
set_option linter.unusedSimpArgs false
open Go.Proofs.Tryz renaming prog → zP, runUnderlying9 → uu9, runUnderlying50 → uu50, sizeOf126 → zz126, isAgg126 → aa126, zeroValue126 → vv126, runUnderlying110 → uu110, sizeOf27 → zz27, isAgg27 → aa27, runUnderlying55 → uu55, isAgg25 → aa25, sizeOf25 → zz25
set_option maxRecDepth 100000
set_option maxHeartbeats 40000000
namespace Go.Sx
open Go Go.RowKit Go.Proofs
attribute [local irreducible] Code.wp wpList Rd gW ObS Ent
attribute [local irreducible] an bB ah aO az c8
def gw :Nat :=
 0
theorem nZ  (w0:World):Calls zP 306 #[(.string ⟨#[0]⟩),(.int .i64 0)] w0 (RetP w0 (.string (bs gw)) (SzB 30 gw)):=by
 refine enter (N:=125) Tryz.func306 rfl rfl ?_; intro ac h
 refine gz h <| (W) ?_; clear h; intro _ _ h
 refine c_ifT h rfl ?_ rfl
 exact (rx h) fun _ _ h=>(h.retP (by unfold gw; rfl) (by unfold gw; exact (bJ 0 DC og)))
theorem rep0:gw=0:=rfl
attribute [irreducible] gw
def pN (a:Nat) (x:Nat):Nat :=
 0
def kw (a:Nat) (x:Nat):Nx Nat Nat :=
 bif (decide ((bq ((br (da x ((br a x).1)) 2).1) x)≥0)) then
  .ret x
 else
  .go (br (da x ((br a x).1)) 2).1
def dK (a:Nat):Nat :=
 bif (decide (a=0)) then
  0
 else
  fin (bt (fun s=>kw a s) (2+1) 2) (fun s=>pN a s) (fun r=>r)
theorem mz (a:Nat) (ha4:a < 4) (za:SzB 30 a) (w0:World):Calls zP 286 #[(.string (bs a))] w0 (RetP w0 (.string (bs (dK a))) (SzB 29 (dK a))):=by
 refine enter (N:=50) Tryz.func286 rfl rfl ?_; intro ac h
 refine pm fun K1 hK1=>?_
 refine rd0 h (ay rfl) rfl <| gn hK1 <| gq fun K2 hK2=>gr fun K3 hK3=>g0 (ap rfl) rfl <| g0 (tV rfl rfl (m:=a) (n:=0)) rfl <| gn hK3 ?_; clear h ac; intro ac wo h
 refine kA h rfl (fun hc1=>?_) (fun hc1=>?_)
 ·skip
  have hd1:=of_decide_eq_true hc1
  refine gz h <| gr fun K4 hK4=>g0 (ay rfl) rfl <| gn hK4 <| gT ?_; clear h ac wo; intro ac wo h
  have hd:dK a=0:=pt
  exact (rt h) (h.retP (by rw [hd] <;> rfl) (by rw [hd]; exact (bJ 0 DC og)))
 ·skip
  have hd1:=of_decide_eq_false hc1
  have ha:0 < a∧a < 4:=⟨by have:=of_decide_eq_false hc1; omega,ha4⟩
  have hsz:=vP ha
  have htp:=wZ ha
  have hla:(le a).length=1:=by rw [← fQ]; exact hsz
  refine gz h <| gS <| gx hK2 <| gr fun K5 hK5=>g0 (ap rfl) rfl <| g0 (oR uu9 rfl) rfl <| g0 (fh rfl rfl (r:=0) (by rw [hsz]; rfl)) rfl <| g0 (mg rfl rfl (r:=0) rfl) rfl <| g0 (ap rfl) rfl <| g0 (uL uu9 rfl rfl og) rfl <| gc (ck Tryz.call305 rfl) (kk (Len8_ct (topb a) og)) rfl <| g0 (eH rfl rfl (r:=(((Lib.bitLen (topb a)):Nat):Int)) (by rw [IntKind.wrap_i64]; omega)) rfl <| g0 (ay rfl) rfl <| gn hK5 <| gr fun K6 hK6=>g0 (ap rfl) rfl <| g0 (eH rfl rfl (r:=(((Lib.bitLen (topb a))+1:Nat):Int)) (by rw [IntKind.wrap_i64]; first | omega | grind)) rfl <| g0 (sx rfl rfl (r:=1) og (by obtain ⟨_,h1,h2⟩:=htp; rw [Int.tdiv_eq_ediv_of_nonneg og,IntKind.wrap_i64]; omega)) rfl <| g0 (ay rfl) rfl <| gn hK6 <| gq fun K7 hK7=>?_; clear h ac wo; intro ac wo h
  have c1:=nZ
  have s1:=Calls.pr (c1 w0)
  replace h:=h.emps 1
  refine im mixed [⟨.det (.int .i64 1),[]⟩,⟨.det (.int .i64 1),[]⟩,⟨.det (.int .u8 2),[]⟩,⟨.nd (.one 3 fun v=>NN v 1),[0]⟩,⟨.det (.string (bs 2)),[0]⟩,⟨.det (.int .i64 1),[]⟩,⟨.det (.int .i64 0),[]⟩,⟨.det (.string (bs gw)),[]⟩,⟨.det (.string (bs 2)),[]⟩,⟨.det (.string (bs 2)),[]⟩] [⟨.emp,[(3,.one 3 fun v=>.row (α:=UInt8) 5 v ([2]))]⟩] h rfl (by kernel_rfl) ⟨?_,?_,?_,?_,?_,?_,?_,?_,?_,?_,trivial⟩ ?_
  ·intro ξ hφ; exact bg (ap rfl)
  ·intro ξ hφ; exact bg (j6 rfl rfl (r:=1) og rfl)
  ·intro ξ hφ; exact bg (sw rfl rfl (r:=2) og (by first | decide | (simp [IntKind.bits] <;> omega)) rfl)
  ·intro ξ hφ; exact mo (ψ:=fun v=>NN v 1) (B:=fun v=>[.row (α:=UInt8) 5 v ([2])]) [.emp] rfl (fun v _=>by simp only [dO,bA] <;> rfl) (fun v hv=>by simpa [DF.one,bA] using hv) (jX (cA (α:=UInt8) (xs:=[.tmp 24]) (vs:=[(.int .u8 2)]) [2] slt335 rfl rfl rfl DC))
  ·intro ξ hφ; exact js [.row (α:=UInt8) 5 (ξ 3) ([2])] rfl rfl (r_str Tryz.underlying335 Tryz.underlying5 Tryz.underlying9 rfl)
  ·intro ξ hφ; exact bg (ap rfl)
  ·intro ξ hφ; exact bg (sx rfl rfl (r:=0) og rfl)
  ·intro ξ hφ; exact kD (fB (ck Tryz.call306 rfl) (kk c1))
  ·intro ξ hφ; exact bg (r_catz rep0 rfl rfl DC)
  ·intro ξ hφ; exact bg (ay rfl)
  clear h ac wo; intro ξ ac wo hφ h
  replace h:St w0 50 [(0,(.string (bs a))),(4,(.string (bs 2)))] [] ac wo:=(h.pick [] DC).sub ⟨rfl,rfl,trivial⟩
  clear hφ ξ
  refine hK7 _ _ ?_
  refine qc ?_
  obtain ⟨X1,hX1⟩:∃ X,bt (fun s=>kw a s) (2+1) 2=X:=⟨_,rfl⟩
  refine wp_loop_ghost (fun n_ a_ w_=>∃ (x:Nat),(x < n_)∧(bt (fun s=>kw a s) n_ x=X1)∧(SzB 29 x)∧(x=2∨x=1)∧St w0 50 [(0,(.string (bs a))),(4,(.string (bs x)))] [] a_ w_) (2+1) ⟨2,og,hX1,(bJ 2 DC og),(Or.inl rfl),h.rs⟩ ?_
  clear h ac wo; rintro n1 ac wo ⟨x,hm1,hL1,zx,hx,h⟩
  obtain ⟨m1,rfl⟩:∃ m,n1=m+1:=⟨n1 - 1,by omega⟩
  have c2:=jQ a x 29 og (SzB_le za og) zx og
  have s2:=au (c2 w0)
  have c3:=iW x ((br a x).1) 28 og zx s2.1
  have s3:=au (c3 w0)
  have c4:=jQ (da x ((br a x).1)) 2 28 og s3 (bJ 2 DC og) og
  have s4:=au (c4 w0)
  refine gz h <| gB <| gr fun K8 hK8=>g0 (ap rfl) rfl <| g0 (ap rfl) rfl <| gc (ck Tryz.call232 rfl) (kk c2) rfl <| g0 (ap rfl) rfl <| g0 (cn rfl rfl) rfl <| g0 (cn rfl rfl) rfl <| g0 (ay rfl) rfl <| g0 (ay rfl) rfl <| gn hK8 <| gr fun K9 hK9=>g0 (ap rfl) rfl <| g0 (ap rfl) rfl <| gc (ck Tryz.call193 rfl) (kk c3) rfl <| gc (ck Tryz.call232 rfl) (kk c4) rfl <| g0 (ap rfl) rfl <| g0 (cn rfl rfl) rfl <| g0 (cn rfl rfl) rfl <| g0 (ay rfl) rfl <| g0 (ay rfl) rfl <| gn hK9 ?_; clear h ac wo; intro ac wo h
  replace h:=h.sub (F':=[(0,(.string (bs a))),(4,(.string (bs x))),(7,(.string (bs ((br (da x ((br a x).1)) 2).1))))]) ⟨rfl,rfl,rfl,trivial⟩
  have p6:=au ((ed ((br (da x ((br a x).1)) 2).1) x) w0)
  refine gz h <| gq fun K10 hK10=>gr fun K11 hK11=>g0 (ap rfl) rfl <| g0 (ap rfl) rfl <| gc (ck Tryz.call194 rfl) (kk (ed ((br (da x ((br a x).1)) 2).1) x)) rfl <| g0 (vZ rfl rfl) rfl <| gn hK11 ?_; clear h ac wo; intro ac wo h
  refine kA h rfl (fun hc2=>?_) (fun hc2=>?_)
  ·skip
   have hd2:=of_decide_eq_true hc2
   refine gz h <| gr fun K12 hK12=>g0 (ap rfl) rfl <| g0 (ay rfl) rfl <| gn hK12 <| gT ?_; clear h ac wo; intro ac wo h
   have hr1:=iH hL1 pt
   have hd:dK a=x:=pt
   exact (rt h) (h.retP (by rw [hd] <;> rfl) (by rw [hd]; exact zx))
  ·skip
   have hd2:=of_decide_eq_false hc2
   refine gz h <| gS <| gx hK10 <| gR <| g0 (ap rfl) rfl <| g0 (ay rfl) rfl <| gx (fun _ _=>fX) <| gN ?_; clear h ac wo; intro ac wo h
   have hzn:SzB 29 ((br (da x ((br a x).1)) 2).1):=root_sz ha hx hc2
   have hln:(br (da x ((br a x).1)) 2).1 < x:=root_lt ha hx hc2
   have hg:=bI hL1 pt
   exact aD ⟨m1,og,_,og,hg,hzn,(sn ha hx hc2),h.re []⟩
attribute [irreducible] dK
end Go.Sx
namespace Go.Sx
def RtR (x:GR):Prop:=x.r=(⟨(⟨false,0⟩:GI),(⟨false,0⟩:GI)⟩:GQ)∨x.r=ah 2
def RtV (i:Iv):Prop:=RtR i.lo∧RtR i.hi
theorem yu {a:GQ} (h:a.den=⟨false,0⟩):0 < (aa a).mag∧(aa a).mag < 4:=by
 have:aa a=rational_one:=by unfold aa; rw [h]; rfl
 rw [this]; decide +kernel
theorem root_pre {x:GR} (h:RtR x) (hs:(aO x.r == 0)=false):x.r.num.mag=2∧x.r.den=⟨false,0⟩:=by
 rcases h with h | h
 ·rw [h] at hs; exact absurd hs (by decide +kernel)
 ·rw [h]; decide +kernel
end Go.Sx
namespace Go.Sx
open Go Go.RowKit Go.Proofs
attribute [local irreducible] Code.wp wpList Rd gW ObS Ent
attribute [local irreducible] an bB ah aO az c8
def gi (a:GI):Int :=
 bif (((decide (a.mag=0)) && a.neg) || ((!(decide (a.mag=0))) && ((((topb a.mag):Int)) == (((0:Nat):Int))))) then
  5
 else
  0
theorem lT (a:GI) (za:SzI 16 a) (w0:World):Calls zP 157 #[(vI a)] w0 (RetP w0 (.int .i64 (gi a)) (True)):=by
 refine enter (N:=21) Tryz.func157 rfl rfl ?_; intro ac h
 refine gz h <| (xb) fun b1=>(xg (hs:=by exact fun hg=>(Rd.of_nil (uL uu9 (db rfl hg) rfl og)).step)) <| (ai) ?_ ?_ <;> clear h <;> intro _ _ h hc1
 ·
  have q:=hc1; try simp at q
  have hd:gi a=5:=pt
  exact (rx h) fun _ _ h=>(h.retP (by rw [hd] <;> rfl) trivial)
 ·
  have q:=hc1; try simp at q
  have hd:gi a=0:=pt
  exact (rx h) fun _ _ h=>(h.retP (by rw [hd] <;> rfl) trivial)
attribute [irreducible] gi
def dD (a:GQ):Int :=
 bif (((gi a.num) != 0) || ((gi a.den) != 0)) then
  5
 else
  bif (decide (a.den=(⟨false,0⟩:GI))) then
   0
  else
   bif ((decide ((dN a.den rational_one)≤0)) || (!(decide ((a8 a.num a.den)=rational_one)))) then
    5
   else
    0
theorem jH (a:GQ) (za:SzQ 16 a) (w0:World):Calls zP 62 #[(vQ a)] w0 (RetP w0 (.int .i64 (dD a)) (True)):=by
 refine enter (N:=31) Tryz.func62 rfl rfl ?_; intro ac h
 refine gz h <| (xb) fun b1=>(xk (lT a.num za.1)) <| (xg (hs:=by exact fun hg=>fB enA (kk (lT a.den za.2)))) <| (ai) ?_ ?_ <;> clear h <;> intro _ _ h hc1
 ·
  have q:=hc1; try simp at q
  have hd:dD a=5:=pt
  exact (rx h) fun _ _ h=>(h.retP (by rw [hd] <;> rfl) trivial)
 ·
  have q:=hc1; try simp at q
  refine gz h <| (xo (hs:=by exact bN qB exs rfl (v:=(vI (⟨false,0⟩:GI))) rfl)) <| (ai) ?_ ?_ <;> clear h <;> intro _ _ h hc2
  ·
   have hd2:=of_decide_eq_true hc2
   have hd:dD a=0:=pt
   exact (rx h) fun _ _ h=>(h.retP (by rw [hd] <;> rfl) trivial)
  ·
   have hd2:=of_decide_eq_false hc2
   refine gz h <| (W) ?_; clear h; intro _ _ h
   have c1:=fq  40 og
   have s1:=au (c1 w0)
   have p3:=au ((iq a.den rational_one 16 og za.2 (gm s1 og)) w0)
   have s4:=au ((jR a.num a.den 16 og za.1 za.2) w0)
   have s5:=au ((fq  40 og ) w0)
   refine gz h <| (dr0 (hob:=(oK (c1)) <| (oK (iq a.den rational_one 16 og za.2 (gm s1 og))) <| (oG (by exact fun hg=>jR a.num a.den 16 og za.1 za.2)) <| (oG (by exact fun hg=>fq  40 og)) <| oE)) <| (ai) ?_ ?_ <;> clear h <;> intro _ _ h hc3
   ·
    have q:=hc3; try simp at q
    have hd:dD a=5:=pt
    exact (rx h) fun _ _ h=>(h.retP (by rw [hd] <;> rfl) trivial)
   ·
    have q:=hc3; try simp at q
    have hd:dD a=0:=pt
    exact (rx h) fun _ _ h=>(h.retP (by rw [hd] <;> rfl) trivial)
attribute [irreducible] dD
end Go.Sx
namespace Go.Sx
open Go Go.RowKit Go.Proofs
attribute [local irreducible] Code.wp wpList Rd gW ObS Ent
attribute [local irreducible] an bB ah aO az c8
def dZ (x:U Qd) (y:U Qd):Bool :=
 ((decide (x.iv=y.iv)) && (aX x.f y.f))
theorem lZ (x:U Qd) (y:U Qd) (b:Nat) (zx:gk 20 x) (zy:gk 20 y) (w0:World) (hbp:PV w0 b [.iface 55 (.agg #[])]):Calls zP 208 #[(vUD x),(vUD y),(ptr b 0)] w0 (RetP w0 (.bool (dZ x y)) (True)):=by
 refine enter (N:=19) Tryz.func208 rfl rfl ?_; intro ac h
 refine gz h <| (xb) fun b1=>(xb) fun b2=>(xg (hs:=by exact fun hg=>(Rd.of_nil (r_ldP hbp Tryz.isAgg162 Tryz.sizeOf162 rfl rfl rfl (v:=(.iface 55 (.agg #[]))) rfl)).step)) <| (xg (hs:=by exact fun hg=>fB enA (kk (gg x.f y.f zx.2 zy.2)))) <| (W) ?_; clear h; intro _ _ h
 exact (rt h) (h.retP (by unfold dZ; rfl) trivial)
attribute [irreducible] dZ
def eqUQ_K1 (xs:List (U Qd)) (ys:List (U Qd)) (x17:Nat):Bool :=
 true
def pX (xs:List (U Qd)) (ys:List (U Qd)) (x17:Nat):Nx Nat Bool :=
 bif (decide ((x17:Int) < (xs.length:Int))) then
  bif (!(dZ (gt xs x17) (gt ys x17))) then
   .ret false
  else
   .go (x17+1)
 else
  .out x17
def eqUQ (xs:List (U Qd)) (ys:List (U Qd)):Bool :=
 bif (((xs.length:Int)) != ((ys.length:Int))) then
  false
 else
  fin (bt (fun s=>pX xs ys s) ((xs.length - 0)+1) 0) (fun s=>eqUQ_K1 xs ys s) (fun r=>r)
theorem eqUQ_ct (xs:List (U Qd)) (xsv:Value) (ys:List (U Qd)) (ysv:Value) (b:Nat) (zxs:All (gk 20) xs) (zys:All (gk 20) ys) (w0:World) (hxsv:View w0 xsv xs) (hysv:View w0 ysv ys) (hbp:PV w0 b [.iface 55 (.agg #[])]):Calls zP 207 #[xsv,ysv,(.func (.func 208) #[] #[(ptr b 0)])] w0 (RetP w0 (.bool (eqUQ xs ys)) (True)):=by
 refine enter (N:=32) Tryz.func207 rfl rfl ?_; intro ac h
 have hlenxs:=hxsv.len
 have hlenys:=hysv.len
 refine pm fun K1 hK1=>?_
 refine rd0 h (ay rfl) rfl <| gn hK1 <| gq fun K2 hK2=>gr fun K3 hK3=>g0 (ap rfl) rfl <| g0 (il uu50 rfl hxsv.sl) rfl <| g0 (ap rfl) rfl <| g0 (il uu50 rfl hysv.sl) rfl <| g0 (r_neq rfl rfl (m:=(xs.length:Int)) (n:=(ys.length:Int))) rfl <| gn hK3 ?_; clear h; intro _ _ h
 refine kA h rfl (fun hc1=>?_) (fun hc1=>?_)
 ·
  have q:=hc1; try simp at q
  refine gz h <| gr fun K4 hK4=>g0 (ay rfl) rfl <| gn hK4 <| gT ?_; clear h; intro _ _ h
  have hd:eqUQ xs ys=false:=pt
  exact (rt h) (h.retP (by rw [hd] <;> rfl) trivial)
 ·
  have q:=hc1; try simp at q
  refine gz h <| gS <| gx hK2 <| gq fun K5 hK5=>gr fun K6 hK6=>g0 (ap rfl) rfl <| g0 (il uu50 rfl hxsv.sl) rfl <| g0 (ap rfl) rfl <| gn hK6 <| gB ?_; clear h; intro _ _ h
  obtain ⟨X1,hX1⟩:∃ X,bt (fun s=>pX xs ys s) ((xs.length - 0)+1) 0=X:=⟨_,rfl⟩
  refine wp_loop_ghost (fun n_ a_ w_=>∃ (x17:Nat),((xs.length - x17) < n_)∧(bt (fun s=>pX xs ys s) n_ x17=X1)∧(x17≤xs.length)∧St w0 32 [(1,ysv),(2,(.func (.func 208) #[] #[(ptr b 0)])),(15,xsv),(16,(iN xs.length)),(17,(iN x17))] [] a_ w_) ((xs.length - 0)+1) ⟨0,og,hX1,og,h.rs⟩ ?_
  clear h; rintro n1 _ _ ⟨x17,hm1,hL1,hx17,h⟩
  obtain ⟨m1,rfl⟩:∃ m,n1=m+1:=⟨n1 - 1,by omega⟩
  refine gz h <| gr fun K7 hK7=>g0 (j7 rfl rfl) rfl <| gn hK7 <| gq fun K8 hK8=>?_; clear h; intro _ _ h
  refine kA h rfl (fun hc2=>?_) (fun hc2=>?_)
  ·
   have hd2:=of_decide_eq_true hc2
   refine gz h <| gS <| gx hK8 <| gq fun K9 hK9=>gB <| gr fun K10 hK10=>g0 (ap rfl) rfl <| g0 (iy (i:=x17) uu50 zz126 rfl rfl (hxsv.nn (i:=x17) og) og) rfl <| g0 (lE (k:=0) aa126 zz126 hxsv (ff og) rfl (Nat.add_zero _) rfl rfl (v:=(vUD (gt xs x17))) rfl) rfl <| ga (cUD (⟨(⟨(⟨oQ,oQ,false⟩:GR),(⟨oQ,oQ,false⟩:GR),false,false⟩:Iv),oD⟩:U Qd)) vv126 rfl rfl fun b1=>g0 (ay rfl) rfl <| gs 0 (cUD (gt xs x17)) rfl zz126 rfl rfl rfl rfl rfl rfl rfl <| gn hK10 <| gr fun K11 hK11=>g0 (ap rfl) rfl <| g0 (ap rfl) rfl <| g0 (iy (i:=x17) uu50 zz126 rfl rfl (hysv.nn (i:=x17) og) og) rfl <| g0 (lE (k:=0) aa126 zz126 hysv (ff og) rfl (Nat.add_zero _) rfl rfl (v:=(vUD (gt ys x17))) rfl) rfl <| ga (cUD (⟨(⟨(⟨oQ,oQ,false⟩:GR),(⟨oQ,oQ,false⟩:GR),false,false⟩:Iv),oD⟩:U Qd)) vv126 rfl rfl fun b2=>gs 0 (cUD (gt ys x17)) rfl zz126 rfl rfl rfl rfl rfl rfl rfl <| gn hK11 <| gr fun K12 hK12=>g0 (ap rfl) rfl <| g1 1 rfl (jr aa126 zz126 rfl rfl rfl (v:=(vUD (gt xs x17))) rfl) rfl <| g1 0 rfl (jr aa126 zz126 rfl rfl rfl (v:=(vUD (gt ys x17))) rfl) rfl <| gc (ug (cap:=[(ptr b 0)]) Tryz.call208 rfl rfl) (fun w_ hB_ hS_=>lZ (gt xs x17) (gt ys x17) b (All.gt zxs (bL _)) (All.gt zys (bL _)) w_ (hbp.below hB_)) rfl <| g0 (r_not rfl) rfl <| gn hK12 ?_; clear h; intro _ _ h
   replace h:=h.sub (F':=[(1,ysv),(2,(.func (.func 208) #[] #[(ptr b 0)])),(15,xsv),(16,(iN xs.length)),(17,(iN x17)),(30,(.bool (!(dZ (gt xs x17) (gt ys x17)))))]) ⟨rfl,rfl,rfl,rfl,rfl,rfl,trivial⟩
   refine kA h rfl (fun hc3=>?_) (fun hc3=>?_)
   ·
    have q:=hc3; try simp at q
    refine gz h <| gr fun K13 hK13=>g0 (ay rfl) rfl <| gn hK13 <| gT ?_; clear h; intro _ _ h
    have hr1:=iH hL1 pt
    have hd:eqUQ xs ys=false:=pt
    exact (rt h) (h.retP (by rw [hd] <;> rfl) trivial)
   ·
    have q:=hc3; try simp at q
    refine gz h <| gS <| gN <| gx hK9 <| gR <| g0 (eH rfl rfl (r:=((x17+1:Nat):Int)) (by rw [IntKind.wrap_i64]; first | omega | grind)) rfl <| g0 (ap rfl) rfl <| gx (fun _ _=>fX) ?_; clear h; intro _ _ h
    have hg:=bI hL1 pt
    exact aD ⟨m1,og,_,og,hg,og,h.re []⟩
  ·
   have hd2:=of_decide_eq_false hc2
   refine kd ?_
   have hx1:=cG hL1 pt
   refine gz h <| gx hK5 <| gr fun K14 hK14=>g0 (ay rfl) rfl <| gn hK14 <| gT ?_; clear h; intro _ _ h
   have hd:eqUQ xs ys=true:=pt
   exact (rt h) (h.retP (by rw [hd] <;> rfl) trivial)
attribute [irreducible] eqUQ
def fc (a:List (U Qd)) (b:List (U Qd)):Bool :=
 (eqUQ a b)
theorem mY (a:List (U Qd)) (av:Value) (b:List (U Qd)) (bv:Value) (za:All (gk 20) a) (zb:All (gk 20) b) (w0:World) (hav:View w0 av a) (hbv:View w0 bv b):Calls zP 121 #[(.iface 55 (.agg #[])),av,bv] w0 (RetP w0 (.bool (fc a b)) (True)):=by
 refine enter (N:=11) Tryz.func121 rfl rfl ?_; intro ac h
 have hlena:=hav.len
 have hlenb:=hbv.len
 refine pm fun K1 hK1=>?_
 refine bx h [.iface 55 (.agg #[])] rfl rfl rfl fun b1=>g0 (ay rfl) rfl <| gn hK1 <| gr fun K2 hK2=>g0 (ap rfl) rfl <| g0 (ap rfl) rfl <| g0 (qI rfl) rfl <| gc (ck Tryz.call207 rfl) (fun w_ hB_ hS_=>eqUQ_ct a av b bv b1 za zb w_ (hav.below hB_) (hbv.below hB_) (blk_pv hS_ 0 rfl)) rfl <| g0 (ay rfl) rfl <| gn hK2 <| gT ?_; clear h; intro _ _ h
 exact (rt h) (h.retP (by unfold fc; rfl) trivial)
attribute [irreducible] fc
def nJ (q:Qd) (x12:Nat):Int :=
 0
def fw (q:Qd) (x12:Nat):Nx Nat Int :=
 bif (decide ((x12:Int) < 3)) then
  bif ((dD (gt [q.c0,q.c1,q.c2] x12)) != 0) then
   .ret 5
  else
   .go (x12+1)
 else
  .out x12
def gO (q:Qd):Int :=
 fin (bt (fun s=>fw q s) ((3 - 0)+1) 0) (fun s=>nJ q s) (fun r=>r)
theorem nI (q:Qd) (zq:SzD 16 q) (w0:World):Calls zP 370 #[(vD q)] w0 (RetP w0 (.int .i64 (gO q)) (True)):=by
 refine enter (N:=19) Tryz.func370 rfl rfl ?_; intro ac h
 obtain ⟨X1,hX1⟩:∃ X,bt (fun s=>fw q s) ((3 - 0)+1) 0=X:=⟨_,rfl⟩
 refine gz h <| (xb) fun b1=>(xo (hs:=by exact r_buildA (α:=GQ) (xs:=[.tmp 6,.tmp 8,.tmp 10]) (vs:=[(vQ q.c0),(vQ q.c1),(vQ q.c2)]) [q.c0,q.c1,q.c2] Tryz.zeroValue110 uu110 zz27 rfl rfl rfl)) <| (W) ?_; clear h; intro _ _ h
 refine wp_loop_ghost (fun n_ a_ w_=>∃ (x12:Nat),((3 - x12) < n_)∧(bt (fun s=>fw q s) n_ x12=X1)∧(x12≤3)∧St w0 19 [(11,(.agg (flat [q.c0,q.c1,q.c2]).toArray)),(12,(iN x12))] [.blk b1 (cD q) 53] a_ w_) ((3 - 0)+1) ⟨0,og,hX1,og,h.rs⟩ ?_
 clear h; rintro n1 _ _ ⟨x12,hm1,hL1,hx12,h⟩
 obtain ⟨m1,rfl⟩:∃ m,n1=m+1:=⟨n1 - 1,by omega⟩
 refine gz h <| (ai) ?_ ?_ <;> clear h <;> intro _ _ h hc1
 ·
  have hd1:=of_decide_eq_true hc1
  refine gz h <| (xo (hs:=by exact r_indexA (i:=x12) (us:=[q.c0,q.c1,q.c2]) (u:=(gt [q.c0,q.c1,q.c2] x12)) uu110 zz27 aa27 rfl rfl og (ff (by simp; omega)) (v:=(vQ (gt [q.c0,q.c1,q.c2] x12))) rfl)) <| (xa) fun b2=>(xk (jH (gt [q.c0,q.c1,q.c2] x12) (All.gt (All.cons zq.1 (All.cons zq.2.1 (All.cons zq.2.2 All.nil))) (wx _)))) <| (ai) ?_ ?_ <;> clear h <;> intro _ _ h hc2
  ·
   have hq2:=hc2; try simp at hq2
   have hr1:=iH hL1 pt
   have hd:gO q=5:=pt
   exact (rx h) fun _ _ h=>(h.retP (by rw [hd] <;> rfl) trivial)
  ·
   have hq2:=hc2; try simp at hq2
   have hg:=bI hL1 pt
   exact (nx h) fun _ _ h=>by exact ⟨m1,og,_,og,hg,og,h.re [1]⟩
 ·
  have hd1:=of_decide_eq_false hc1
  have hx1:=cG hL1 pt
  have hd:gO q=0:=pt
  exact (rx h) fun _ _ h=>(h.retP (by rw [hd] <;> rfl) trivial)
attribute [irreducible] gO
def dE (f:Qd):Int :=
 (gO f)
theorem mi (f:Qd) (zf:SzD 30 f) (w0:World):Calls zP 366 #[(.agg #[]),(vD f)] w0 (RetP w0 (.int .i64 (dE f)) (True)):=by
 refine enter (N:=7) Tryz.func366 rfl rfl ?_; intro ac h
 refine gz h <| (xb) fun b1=>(xb) fun b2=>(xk (nI f (dh zf og))) <| (W) ?_; clear h; intro _ _ h
 exact (rt h) (h.retP (by unfold dE; rfl) trivial)
attribute [irreducible] dE
def aI (i:Iv):Bd :=
 (⟨i.lo,i.openLo⟩:Bd)
theorem gQ (i:Iv) (zi:SzV 30 i) (w0:World):Calls zP 136 #[(vV i)] w0 (RetP w0 (vW (aI i)) (SzW 30 (aI i))):=by
 refine enter (N:=8) Tryz.func136 rfl rfl ?_; intro ac h
 refine gz h <| (xb) fun b1=>(xa) fun b2=>(xo (hs:=by exact bN bld206 exs rfl (v:=(vW (⟨i.lo,i.openLo⟩:Bd))) rfl)) <| (W) ?_; clear h; intro _ _ h
 exact ret h rfl (.cell (v:=(vW (⟨i.lo,i.openLo⟩:Bd))) rfl (i:=0) rfl Tryz.isAgg206 Tryz.sizeOf206 rfl rfl rfl .nil) rfl (h.retP (by unfold aI; rfl) (by unfold aI; exact zi.1))
attribute [irreducible] aI
def aG (i:Iv):Bd :=
 (⟨i.hi,(!i.openHi)⟩:Bd)
theorem ig (i:Iv) (zi:SzV 30 i) (w0:World):Calls zP 137 #[(vV i)] w0 (RetP w0 (vW (aG i)) (SzW 30 (aG i))):=by
 refine enter (N:=9) Tryz.func137 rfl rfl ?_; intro ac h
 refine gz h <| (xb) fun b1=>(xa) fun b2=>(xo (hs:=by exact bN bld206 exs rfl (v:=(vW (⟨i.hi,(!i.openHi)⟩:Bd))) rfl)) <| (W) ?_; clear h; intro _ _ h
 exact ret h rfl (.cell (v:=(vW (⟨i.hi,(!i.openHi)⟩:Bd))) rfl (i:=0) rfl Tryz.isAgg206 Tryz.sizeOf206 rfl rfl rfl .nil) rfl (h.retP (by unfold aG; rfl) (by unfold aG; exact zi.2))
attribute [irreducible] aG
def cm (a:Bd) (b:Bd):Int :=
 bif ((an a.at_ b.at_) != 0) then
  (an a.at_ b.at_)
 else
  bif (a.behind == b.behind) then
   0
  else
   bif b.behind then
    (-1)
   else
    1
theorem iF (a:Bd) (b:Bd) (za:SzW 30 a) (zb:SzW 30 b) (w0:World):Calls zP 135 #[(vW a),(vW b)] w0 (RetP w0 (.int .i64 (cm a b)) ((-1≤(cm a b)∧(cm a b)≤1))):=by
 refine enter (N:=23) Tryz.func135 rfl rfl ?_; intro ac h
 have p2:=au ((aS a.at_ b.at_ 10 og za zb) w0)
 refine gz h <| (xb) fun b1=>(xb) fun b2=>(xk (aS a.at_ b.at_ 10 og za zb)) <| (ai) ?_ ?_ <;> clear h <;> intro _ _ h hc1
 ·
  have q:=hc1; try simp at q
  have hd:cm a b=(an a.at_ b.at_):=pt
  exact (rx h) fun _ _ h=>(h.retP (by rw [hd] <;> rfl) (by rw [hd]; exact og))
 ·
  have q:=hc1; try simp at q
  refine gz h <| (xo (hs:=by exact xu Tryz.underlying4 rfl rfl)) <| (ai) ?_ ?_ <;> clear h <;> intro _ _ h hc2
  ·
   have hd2:=eq_of_beq hc2
   have hd:cm a b=0:=pt
   exact (rx h) fun _ _ h=>(h.retP (by rw [hd] <;> rfl) (by rw [hd]; exact og))
  ·
   have hd2:=ne_of_beq_false hc2
   refine gz h <| (ai) ?_ ?_ <;> clear h <;> intro _ _ h hc3
   ·
    have q:=hc3; try simp at q
    have hd:cm a b=(-1):=pt
    exact (rx h) fun _ _ h=>(h.retP (by rw [hd] <;> rfl) (by rw [hd]; exact og))
   ·
    have q:=hc3; try simp at q
    have hd:cm a b=1:=pt
    exact (rx h) fun _ _ h=>(h.retP (by rw [hd] <;> rfl) (by rw [hd]; exact og))
attribute [irreducible] cm
end Go.Sx
namespace Go.Sx
open Go Go.RowKit Go.Proofs
attribute [local irreducible] Code.wp wpList Rd gW ObS Ent
attribute [local irreducible] an bB ah aO az c8
theorem sM (w : World) : (method (Tryz.prog.types.size + Made.depth) 55 (.agg #[]) "Check").run zP w = .ok (366, .agg #[]) w := kM (P := zP) (T := 55) Tryz.type55 (by kernel_rfl) uu55 w
instance zi70 : Mt zP 55 (.agg #[]) "Check" 366 := ⟨sM⟩
theorem rq (w : World) : (nilAhead (Tryz.prog.types.size + Made.depth) 55 (.agg #[]) "Check").run zP w = .ok (some false) w := jn (P := zP) (T := 55) (f := 366) Tryz.type55 (by kernel_rfl) uu55 w
instance zi71 : Nl zP 55 (.agg #[]) "Check" := ⟨rq⟩
def cj (a:GI):GI×Bool :=
 bif a.neg then
  ((⟨false,0⟩:GI),false)
 else
  bif (!(decide ((fP (dK a.mag) (dK a.mag))=a.mag))) then
   ((⟨false,0⟩:GI),false)
  else
   ((aQ false (dK a.mag)),true)
theorem kx (a:GI) (ha:0 < a.mag∧a.mag < 4) (za:SzI 30 a) (w0:World):Calls zP 276 #[(vI a)] w0 (RetP w0 (.tuple #[(vI ((cj a).1)),(.bool ((cj a).2))]) (SzI 28 ((cj a).1))):=by
 refine enter (N:=20) Tryz.func276 rfl rfl ?_; intro ac h
 refine gz h <| (xb) fun b1=>(xa) fun b2=>(ai) ?_ ?_ <;> clear h <;> intro _ _ h hc1
 ·
  have q:=hc1; try simp at q
  have hd:cj a=((⟨false,0⟩:GI),false):=pt
  refine gz h <| (xo (hs:=by exact bN qB exs rfl (v:=(vI (⟨false,0⟩:GI))) rfl)) <| (W) ?_; clear h; intro _ _ h
  exact ret h rfl (.cell (v:=(vI (⟨false,0⟩:GI))) rfl (i:=0) rfl aa25 zz25 rfl rfl rfl (.tmp rfl .nil)) rfl (h.retP (by rw [hd] <;> rfl) (by rw [hd]; exact (bJ 0 DC og)))
 ·
  have q:=hc1; try simp at q
  have c1:=mz a.mag ha.2 za
  have s1:=Calls.pr (c1 w0)
  refine gz h <| (xk (c1)) <| (W) ?_; clear h; intro _ _ h
  have c2:=kW (dK a.mag) (dK a.mag) 28 og s1 s1
  have s2:=au (c2 w0)
  refine gz h <| (dr0 (hob:=(oK (c2)) <| oE)) <| (ai) ?_ ?_ <;> clear h <;> intro _ _ h hc2
  ·
   have q:=hc2; try simp at q
   have hd:cj a=((⟨false,0⟩:GI),false):=pt
   refine gz h <| (xo (hs:=by exact bN qB exs rfl (v:=(vI (⟨false,0⟩:GI))) rfl)) <| (W) ?_; clear h; intro _ _ h
   exact ret h rfl (.cell (v:=(vI (⟨false,0⟩:GI))) rfl (i:=0) rfl aa25 zz25 rfl rfl rfl (.tmp rfl .nil)) rfl (h.retP (by rw [hd] <;> rfl) (by rw [hd]; exact (bJ 0 DC og)))
  ·
   have q:=hc2; try simp at q
   have c3:=cg false (dK a.mag) 29 og s1
   have s3:=au (c3 w0)
   have hd:cj a=((aQ false (dK a.mag)),true):=pt
   refine gz h <| (xk (c3)) <| (W) ?_; clear h; intro _ _ h
   exact ret h rfl (.cell (v:=(vI (aQ false (dK a.mag)))) rfl (i:=0) rfl aa25 zz25 rfl rfl rfl (.tmp rfl .nil)) rfl (h.retP (by rw [hd] <;> rfl) (by rw [hd]; exact (gm s3 og)))
attribute [irreducible] cj
def gZ (a:GQ):GQ×Bool :=
 bif ((!(cj a.num).2) || (!(cj (aa a)).2)) then
  ((⟨(⟨false,0⟩:GI),(⟨false,0⟩:GI)⟩:GQ),false)
 else
  ((bH ((cj a.num).1) ((cj (aa a)).1)),true)
theorem o6 (a:GQ) (ha:a.num.mag=2∧a.den=⟨false,0⟩) (za:SzQ 30 a) (w0:World):Calls zP 219 #[(vQ a)] w0 (RetP w0 (.tuple #[(vQ ((gZ a).1)),(.bool ((gZ a).2))]) (SzQ 20 ((gZ a).1))):=by
 refine enter (N:=30) Tryz.func219 rfl rfl ?_; intro ac h
 have c1:=kx a.num og za.1
 have s1:=Calls.pr (c1 w0)
 have c2:=cc a 30 og za
 have s2:=au (c2 w0)
 have c3:=kx (aa a) (yu ha.2) s2
 have s3:=Calls.pr (c3 w0)
 refine gz h <| (xb) fun b1=>(xa) fun b2=>(xk (c1)) <| (xa) fun b3=>(xk (c2)) <| (xk (c3)) <| (xa) fun b4=>(ai) ?_ ?_ <;> clear h <;> intro _ _ h hc1
 ·
  have q:=hc1; try simp at q
  have hd:gZ a=(oQ,false):=pt
  refine gz h <| (xo (hs:=by exact bN qg exs rfl (v:=(vQ oQ)) rfl)) <| (W) ?_; clear h; intro _ _ h
  exact ret h rfl (.cell (v:=(vQ oQ)) rfl (i:=2) rfl aa27 zz27 rfl rfl rfl (.tmp rfl .nil)) rfl (h.retP (by rw [hd] <;> rfl) (by rw [hd]; exact ⟨(bJ 0 DC og),(bJ 0 DC og)⟩))
 ·
  have q:=hc1; try simp at q
  have c4:=eC ((cj a.num).1) ((cj (aa a)).1) 27 og s1 s3
  have s4:=au (c4 w0)
  have hd:gZ a=((bH ((cj a.num).1) ((cj (aa a)).1)),true):=pt
  refine gz h <| (xk (c4)) <| (W) ?_; clear h; intro _ _ h
  exact ret h rfl (.cell (v:=(vQ (bH ((cj a.num).1) ((cj (aa a)).1)))) rfl (i:=2) rfl aa27 zz27 rfl rfl rfl (.tmp rfl .nil)) rfl (h.retP (by rw [hd] <;> rfl) (by rw [hd]; exact (fW s4 og)))
attribute [irreducible] gZ
def f8 (x:GR):Int :=
 bif (((dD x.p) != 0) || ((dD x.r) != 0)) then
  5
 else
  bif ((aO x.r) == (-1)) then
   5
  else
   bif ((aO x.r) == 0) then
    bif x.neg then
     5
    else
     0
   else
    bif (gZ x.r).2 then
     5
    else
     0
theorem nH (x:GR) (hr:RtR x) (zx:SzR 30 x) (w0:World):Calls zP 134 #[(vR x)] w0 (RetP w0 (.int .i64 (f8 x)) (True)):=by
 refine enter (N:=31) Tryz.func134 rfl rfl ?_; intro ac h
 refine gz h <| (xb) fun b1=>(xk (jH x.p (fW zx.1 og))) <| (xg (hs:=by exact fun hg=>fB enA (kk (jH x.r (fW zx.2 og))))) <| (ai) ?_ ?_ <;> clear h <;> intro _ _ h hc1
 ·
  have q:=hc1; try simp at q
  have hd:f8 x=5:=pt
  exact (rx h) fun _ _ h=>(h.retP (by rw [hd] <;> rfl) trivial)
 ·
  have q:=hc1; try simp at q
  have p2:=au ((dA x.r) w0)
  refine gz h <| (xk (dA x.r)) <| (ai) ?_ ?_ <;> clear h <;> intro _ _ h hc2
  ·
   have hd2:=eq_of_beq hc2
   have hd:f8 x=5:=pt
   exact (rx h) fun _ _ h=>(h.retP (by rw [hd] <;> rfl) trivial)
  ·
   have hd2:=ne_of_beq_false hc2
   refine gz h <| (ai) ?_ ?_ <;> clear h <;> intro _ _ h hc3
   ·
    have hd3:=eq_of_beq hc3
    refine gz h <| (ai) ?_ ?_ <;> clear h <;> intro _ _ h hc4
    ·
     have q:=hc4; try simp at q
     have hd:f8 x=5:=pt
     exact (rx h) fun _ _ h=>(h.retP (by rw [hd] <;> rfl) trivial)
    ·
     have q:=hc4; try simp at q
     have hd:f8 x=0:=pt
     exact (rx h) fun _ _ h=>(h.retP (by rw [hd] <;> rfl) trivial)
   ·
    have hd3:=ne_of_beq_false hc3
    have c3:=o6 x.r (root_pre hr (by assumption)) zx.2
    have s3:=Calls.pr (c3 w0)
    refine gz h <| (xk (c3)) <| (xa) fun b2=>(ai) ?_ ?_ <;> clear h <;> intro _ _ h hc5
    ·
     have q:=hc5; try simp at q
     have hd:f8 x=5:=pt
     exact (rx h) fun _ _ h=>(h.retP (by rw [hd] <;> rfl) trivial)
    ·
     have q:=hc5; try simp at q
     have hd:f8 x=0:=pt
     exact (rx h) fun _ _ h=>(h.retP (by rw [hd] <;> rfl) trivial)
attribute [irreducible] f8
def cu (i:Iv):Int :=
 bif (((f8 i.lo) != 0) || ((f8 i.hi) != 0)) then
  5
 else
  bif (decide ((cm (aI i) (aG i))≥0)) then
   10
  else
   0
theorem lH (i:Iv) (hv:RtV i) (zi:SzV 30 i) (w0:World):Calls zP 44 #[(vV i)] w0 (RetP w0 (.int .i64 (cu i)) (True)):=by
 refine enter (N:=19) Tryz.func44 rfl rfl ?_; intro ac h
 refine gz h <| (xb) fun b1=>(xk (nH i.lo hv.1 zi.1)) <| (xg (hs:=by exact fun hg=>fB enA (kk (nH i.hi hv.2 zi.2)))) <| (ai) ?_ ?_ <;> clear h <;> intro _ _ h hc1
 ·
  have q:=hc1; try simp at q
  have hd:cu i=5:=pt
  exact (rx h) fun _ _ h=>(h.retP (by rw [hd] <;> rfl) trivial)
 ·
  have q:=hc1; try simp at q
  refine gz h <| (W) ?_; clear h; intro _ _ h
  have s1:=Calls.pr ((fun w_ hB_ hS_=>gQ i zi w_ ) _ h.bel h.sep)
  have s2:=Calls.pr ((fun w_ hB_ hS_=>ig i zi w_ ) _ h.bel h.sep)
  have s3:=Calls.pr ((fun w_ hB_ hS_=>iF (aI i) (aG i) s1 s2 w_ ) _ h.bel h.sep)
  have p4:=s3
  refine gz h <| (dr0 (hob:=(oX (h:=by exact fun _=>kD (fB (vs:=[(vV i)]) (ck Tryz.call136 rfl) (fun w_ hB_ hS_=>gQ i zi w_ )))) <| (oK (ig i zi)) <| (oK (iF (aI i) (aG i) s1 s2)) <| oE)) <| (ai) ?_ ?_ <;> clear h <;> intro _ _ h hc2
  ·
   have hd2:=of_decide_eq_true hc2
   have hd:cu i=10:=pt
   exact (rx h) fun _ _ h=>(h.retP (by rw [hd] <;> rfl) trivial)
  ·
   have hd2:=of_decide_eq_false hc2
   have hd:cu i=0:=pt
   exact (rx h) fun _ _ h=>(h.retP (by rw [hd] <;> rfl) trivial)
attribute [irreducible] cu
def gC (l:List (U Qd)) (x16:Nat):Int :=
 bif ((((bn l).2) != 0) || (!(fc l ((bn l).1)))) then
  5
 else
  0
def eP (l:List (U Qd)) (x16:Nat):Nx Nat Int :=
 bif (decide ((x16:Int) < (l.length:Int))) then
  bif ((cu ((gt l x16).iv)) != 0) then
   .ret (cu ((gt l x16).iv))
  else
   bif ((dE ((gt l x16).f)) != 0) then
    .ret (dE ((gt l x16).f))
   else
    bif ((decide ((x16:Int)>0)) && (!(dI ((gt l (x16 - 1)).iv) ((gt l x16).iv)))) then
     .ret 7
    else
     .go (x16+1)
 else
  .out x16
def iE (l:List (U Qd)):Int :=
 bif (decide ((l.length:Int)>256)) then
  3
 else
  fin (bt (fun s=>eP l s) ((l.length - 0)+1) 0) (fun s=>gC l s) (fun r=>r)
attribute [irreducible] iE
end Go.Sx
