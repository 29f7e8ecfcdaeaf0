import Derived.Test.YtbenbmdkhcfcfaaGreatDoorEx
import Derived.Test.YtbenbmdkhcfcfaaGreatDoorGarith
import Derived.Test.YtbenbmdkhcfcfaaGreatDoorQ4
import Derived.Test.YtbenbmdkhcfcfaaGreatDoorL2
set_option linter.unusedVariables false
set_option linter.unusedSimpArgs false
open Go.Proofs.Tryz renaming prog → zP, runUnderlying9 → uu9, runUnderlying50 → uu50, sizeOf126 → zz126, isAgg126 → aa126, zeroValue126 → vv126, runUnderlying110 → uu110, sizeOf27 → zz27, isAgg27 → aa27, runUnderlying55 → uu55, isAgg25 → aa25, sizeOf25 → zz25
set_option maxRecDepth 100000
set_option maxHeartbeats 40000000
namespace Go.Sx
open Go Go.RowKit Go.Proofs
attribute [local irreducible] Code.wp wpList Rd gX ObS Ent
attribute [local irreducible] an bD ah aN aC dg
def gA :Nat :=
 0
theorem nV  (w0:World):Calls zP 306 #[(.string ⟨#[0]⟩),(.int .i64 0)] w0 (RetP w0 (.string (bs gA)) (SzB 30 gA)):=by
 refine enter (N:=125) Tryz.func306 rfl rfl ?_; intro ac h
 refine gz h <| (W) ?_; clear h; intro _ _ h
 refine c_ifT h rfl ?_ rfl
 exact (rx h) fun _ _ h=>(h.retP (by unfold gA; rfl) (by unfold gA; exact (bI 0 DC og)))
theorem rep0:gA=0:=rfl
attribute [irreducible] gA
def pH (a:Nat) (x:Nat):Nat :=
 0
def ku (a:Nat) (x:Nat):Nx Nat Nat :=
 bif (decide ((bq ((bt (df x ((bt a x).1)) 2).1) x)≥0)) then
  .ret x
 else
  .go (bt (df x ((bt a x).1)) 2).1
def dK (a:Nat):Nat :=
 bif (decide (a=0)) then
  0
 else
  fin (br (fun s=>ku a s) (2+1) 2) (fun s=>pH a s) (fun r=>r)
theorem mA (a:Nat) (ha4:a < 4) (za:SzB 30 a) (w0:World):Calls zP 286 #[(.string (bs a))] w0 (RetP w0 (.string (bs (dK a))) (SzB 29 (dK a))):=by
 refine enter (N:=50) Tryz.func286 rfl rfl ?_; intro ac h
 refine oP fun K1 hK1=>?_
 refine rd0 h (az rfl) rfl <| gn hK1 <| gq fun K2 hK2=>gr fun K3 hK3=>g0 (ap rfl) rfl <| g0 (tP rfl rfl (m:=a) (n:=0)) rfl <| gn hK3 ?_; clear h ac; intro ac wo h
 refine kj h rfl (fun hc1=>?_) (fun hc1=>?_)
 ·skip
  have hd1:=of_decide_eq_true hc1
  refine gz h <| gr fun K4 hK4=>g0 (az rfl) rfl <| gn hK4 <| gT ?_; clear h ac wo; intro ac wo h
  have hd:dK a=0:=pt
  exact (rt h) (h.retP (by rw [hd] <;> rfl) (by rw [hd]; exact (bI 0 DC og)))
 ·skip
  have hd1:=of_decide_eq_false hc1
  have ha:0 < a∧a < 4:=⟨by have:=of_decide_eq_false hc1; omega,ha4⟩
  have hsz:=vB ha
  have htp:=wP ha
  have hla:(le a).length=1:=by rw [← fV]; exact hsz
  refine gz h <| gS <| gx hK2 <| gr fun K5 hK5=>g0 (ap rfl) rfl <| g0 (oL uu9 rfl) rfl <| g0 (fj rfl rfl (r:=0) (by rw [hsz]; rfl)) rfl <| g0 (mg rfl rfl (r:=0) rfl) rfl <| g0 (ap rfl) rfl <| g0 (uB uu9 rfl rfl og) rfl <| gc (ck Tryz.call305 rfl) (kk (Len8_ct (topb a) og)) rfl <| g0 (eJ rfl rfl (r:=(((Lib.bitLen (topb a)):Nat):Int)) (by rw [IntKind.wrap_i64]; omega)) rfl <| g0 (az rfl) rfl <| gn hK5 <| gr fun K6 hK6=>g0 (ap rfl) rfl <| g0 (eJ rfl rfl (r:=(((Lib.bitLen (topb a))+1:Nat):Int)) (by rw [IntKind.wrap_i64]; first | omega | grind)) rfl <| g0 (so rfl rfl (r:=1) og (by obtain ⟨_,h1,h2⟩:=htp; rw [Int.tdiv_eq_ediv_of_nonneg og,IntKind.wrap_i64]; omega)) rfl <| g0 (az rfl) rfl <| gn hK6 <| gq fun K7 hK7=>?_; clear h ac wo; intro ac wo h
  have c1:=nV
  have s1:=Calls.pr (c1 w0)
  replace h:=h.emps 1
  refine ij mixed [⟨.det (.int .i64 1),[]⟩,⟨.det (.int .i64 1),[]⟩,⟨.det (.int .u8 2),[]⟩,⟨.nd (.one 3 fun v=>NN v 1),[0]⟩,⟨.det (.string (bs 2)),[0]⟩,⟨.det (.int .i64 1),[]⟩,⟨.det (.int .i64 0),[]⟩,⟨.det (.string (bs gA)),[]⟩,⟨.det (.string (bs 2)),[]⟩,⟨.det (.string (bs 2)),[]⟩] [⟨.emp,[(3,.one 3 fun v=>.row (α:=UInt8) 5 v ([2]))]⟩] h rfl (by kernel_rfl) ⟨?_,?_,?_,?_,?_,?_,?_,?_,?_,?_,trivial⟩ ?_
  ·intro ξ hφ; exact bc (ap rfl)
  ·intro ξ hφ; exact bc (j0 rfl rfl (r:=1) og rfl)
  ·intro ξ hφ; exact bc (sn rfl rfl (r:=2) og (by first | decide | (simp [IntKind.bits] <;> omega)) rfl)
  ·intro ξ hφ; exact mo (ψ:=fun v=>NN v 1) (B:=fun v=>[.row (α:=UInt8) 5 v ([2])]) [.emp] rfl (fun v _=>by simp only [dP,bA] <;> rfl) (fun v hv=>by simpa [DF.one,bA] using hv) (jU (cB (α:=UInt8) (xs:=[.tmp 24]) (vs:=[(.int .u8 2)]) [2] slt335 rfl rfl rfl DC))
  ·intro ξ hφ; exact jq [.row (α:=UInt8) 5 (ξ 3) ([2])] rfl rfl (r_str Tryz.underlying335 Tryz.underlying5 Tryz.underlying9 rfl)
  ·intro ξ hφ; exact bc (ap rfl)
  ·intro ξ hφ; exact bc (so rfl rfl (r:=0) og rfl)
  ·intro ξ hφ; exact kn (fi (ck Tryz.call306 rfl) (kk c1))
  ·intro ξ hφ; exact bc (r_catz rep0 rfl rfl DC)
  ·intro ξ hφ; exact bc (az rfl)
  clear h ac wo; intro ξ ac wo hφ h
  replace h:St w0 50 [(0,(.string (bs a))),(4,(.string (bs 2)))] [] ac wo:=(h.pick [] DC).sub ⟨rfl,rfl,trivial⟩
  clear hφ ξ
  refine hK7 _ _ ?_
  refine pZ ?_
  obtain ⟨X1,hX1⟩:∃ X,br (fun s=>ku a s) (2+1) 2=X:=⟨_,rfl⟩
  refine wp_loop_ghost (fun n_ a_ w_=>∃ (x:Nat),(x < n_)∧(br (fun s=>ku a s) n_ x=X1)∧(SzB 29 x)∧(x=2∨x=1)∧St w0 50 [(0,(.string (bs a))),(4,(.string (bs x)))] [] a_ w_) (2+1) ⟨2,og,hX1,(bI 2 DC og),(Or.inl rfl),h.rs⟩ ?_
  clear h ac wo; rintro n1 ac wo ⟨x,hm1,hL1,zx,hx,h⟩
  obtain ⟨m1,rfl⟩:∃ m,n1=m+1:=⟨n1 - 1,by omega⟩
  have c2:=jM a x 29 og (SzB_le za og) zx og
  have s2:=ay (c2 w0)
  have c3:=iT x ((bt a x).1) 28 og zx s2.1
  have s3:=ay (c3 w0)
  have c4:=jM (df x ((bt a x).1)) 2 28 og s3 (bI 2 DC og) og
  have s4:=ay (c4 w0)
  refine gz h <| gB <| gr fun K8 hK8=>g0 (ap rfl) rfl <| g0 (ap rfl) rfl <| gc (ck Tryz.call232 rfl) (kk c2) rfl <| g0 (ap rfl) rfl <| g0 (cj rfl rfl) rfl <| g0 (cj rfl rfl) rfl <| g0 (az rfl) rfl <| g0 (az rfl) rfl <| gn hK8 <| gr fun K9 hK9=>g0 (ap rfl) rfl <| g0 (ap rfl) rfl <| gc (ck Tryz.call193 rfl) (kk c3) rfl <| gc (ck Tryz.call232 rfl) (kk c4) rfl <| g0 (ap rfl) rfl <| g0 (cj rfl rfl) rfl <| g0 (cj rfl rfl) rfl <| g0 (az rfl) rfl <| g0 (az rfl) rfl <| gn hK9 ?_; clear h ac wo; intro ac wo h
  replace h:=h.sub (F':=[(0,(.string (bs a))),(4,(.string (bs x))),(7,(.string (bs ((bt (df x ((bt a x).1)) 2).1))))]) ⟨rfl,rfl,rfl,trivial⟩
  have p6:=ay ((ej ((bt (df x ((bt a x).1)) 2).1) x) w0)
  refine gz h <| gq fun K10 hK10=>gr fun K11 hK11=>g0 (ap rfl) rfl <| g0 (ap rfl) rfl <| gc (ck Tryz.call194 rfl) (kk (ej ((bt (df x ((bt a x).1)) 2).1) x)) rfl <| g0 (vJ rfl rfl) rfl <| gn hK11 ?_; clear h ac wo; intro ac wo h
  refine kj h rfl (fun hc2=>?_) (fun hc2=>?_)
  ·skip
   have hd2:=of_decide_eq_true hc2
   refine gz h <| gr fun K12 hK12=>g0 (ap rfl) rfl <| g0 (az rfl) rfl <| gn hK12 <| gT ?_; clear h ac wo; intro ac wo h
   have hr1:=it hL1 pt
   have hd:dK a=x:=pt
   exact (rt h) (h.retP (by rw [hd] <;> rfl) (by rw [hd]; exact zx))
  ·skip
   have hd2:=of_decide_eq_false hc2
   refine gz h <| gS <| gx hK10 <| gR <| g0 (ap rfl) rfl <| g0 (az rfl) rfl <| gx (fun _ _=>f5) <| gN ?_; clear h ac wo; intro ac wo h
   have hzn:SzB 29 ((bt (df x ((bt a x).1)) 2).1):=root_sz ha hx hc2
   have hln:(bt (df x ((bt a x).1)) 2).1 < x:=root_lt ha hx hc2
   have hg:=bF hL1 pt
   exact aF ⟨m1,og,_,og,hg,hzn,(sh ha hx hc2),h.re []⟩
attribute [irreducible] dK
end Go.Sx
namespace Go.Sx
def RtR (x:GR):Prop:=x.r=(⟨(⟨false,0⟩:GI),(⟨false,0⟩:GI)⟩:GQ)∨x.r=ah 2
def RtV (i:Iv):Prop:=RtR i.lo∧RtR i.hi
theorem yc {a:GQ} (h:a.den=⟨false,0⟩):0 < (aa a).mag∧(aa a).mag < 4:=by
 have:aa a=rational_one:=by unfold aa; rw [h]; rfl
 rw [this]; decide +kernel
theorem root_pre {x:GR} (h:RtR x) (hs:(aN x.r == 0)=false):x.r.num.mag=2∧x.r.den=⟨false,0⟩:=by
 rcases h with h | h
 ·rw [h] at hs; exact absurd hs (by decide +kernel)
 ·rw [h]; decide +kernel
end Go.Sx
namespace Go.Sx
open Go Go.RowKit Go.Proofs
attribute [local irreducible] Code.wp wpList Rd gX ObS Ent
attribute [local irreducible] an bD ah aN aC dg
def gm (a:GI):Int :=
 bif (((decide (a.mag=0)) && a.neg) || ((!(decide (a.mag=0))) && ((((topb a.mag):Int)) == (((0:Nat):Int))))) then
  5
 else
  0
theorem lS (a:GI) (za:SzI 16 a) (w0:World):Calls zP 157 #[(vI a)] w0 (RetP w0 (.int .i64 (gm a)) (True)):=by
 refine enter (N:=21) Tryz.func157 rfl rfl ?_; intro ac h
 refine gz h <| (xb) fun b1=>(xg (hs:=by exact fun hg=>(Rd.of_nil (uB uu9 (cL rfl hg) rfl og)).step)) <| (ai) ?_ ?_ <;> clear h <;> intro _ _ h hc1
 ·
  have q:=hc1; try simp at q
  have hd:gm a=5:=pt
  exact (rx h) fun _ _ h=>(h.retP (by rw [hd] <;> rfl) trivial)
 ·
  have q:=hc1; try simp at q
  have hd:gm a=0:=pt
  exact (rx h) fun _ _ h=>(h.retP (by rw [hd] <;> rfl) trivial)
attribute [irreducible] gm
def dE (a:GQ):Int :=
 bif (((gm a.num) != 0) || ((gm a.den) != 0)) then
  5
 else
  bif (decide (a.den=(⟨false,0⟩:GI))) then
   0
  else
   bif ((decide ((dN a.den rational_one)≤0)) || (!(decide ((a7 a.num a.den)=rational_one)))) then
    5
   else
    0
theorem jE (a:GQ) (za:SzQ 16 a) (w0:World):Calls zP 62 #[(vQ a)] w0 (RetP w0 (.int .i64 (dE a)) (True)):=by
 refine enter (N:=31) Tryz.func62 rfl rfl ?_; intro ac h
 refine gz h <| (xb) fun b1=>(xk (lS a.num za.1)) <| (xg (hs:=by exact fun hg=>fi enA (kk (lS a.den za.2)))) <| (ai) ?_ ?_ <;> clear h <;> intro _ _ h hc1
 ·
  have q:=hc1; try simp at q
  have hd:dE a=5:=pt
  exact (rx h) fun _ _ h=>(h.retP (by rw [hd] <;> rfl) trivial)
 ·
  have q:=hc1; try simp at q
  refine gz h <| (xo (hs:=by exact bM qx exs rfl (v:=(vI (⟨false,0⟩:GI))) rfl)) <| (ai) ?_ ?_ <;> clear h <;> intro _ _ h hc2
  ·
   have hd2:=of_decide_eq_true hc2
   have hd:dE a=0:=pt
   exact (rx h) fun _ _ h=>(h.retP (by rw [hd] <;> rfl) trivial)
  ·
   have hd2:=of_decide_eq_false hc2
   refine gz h <| (W) ?_; clear h; intro _ _ h
   have c1:=fv  40 og
   have s1:=ay (c1 w0)
   have p3:=ay ((iu a.den rational_one 16 og za.2 (gu s1 og)) w0)
   have s4:=ay ((jN a.num a.den 16 og za.1 za.2) w0)
   have s5:=ay ((fv  40 og ) w0)
   refine gz h <| (dr0 (hob:=(oK (c1)) <| (oK (iu a.den rational_one 16 og za.2 (gu s1 og))) <| (oG (by exact fun hg=>jN a.num a.den 16 og za.1 za.2)) <| (oG (by exact fun hg=>fv  40 og)) <| oE)) <| (ai) ?_ ?_ <;> clear h <;> intro _ _ h hc3
   ·
    have q:=hc3; try simp at q
    have hd:dE a=5:=pt
    exact (rx h) fun _ _ h=>(h.retP (by rw [hd] <;> rfl) trivial)
   ·
    have q:=hc3; try simp at q
    have hd:dE a=0:=pt
    exact (rx h) fun _ _ h=>(h.retP (by rw [hd] <;> rfl) trivial)
attribute [irreducible] dE
end Go.Sx
namespace Go.Sx
open Go Go.RowKit Go.Proofs
attribute [local irreducible] Code.wp wpList Rd gX ObS Ent
attribute [local irreducible] an bD ah aN aC dg
def d6 (x:U Qd) (y:U Qd):Bool :=
 ((decide (x.iv=y.iv)) && (aW x.f y.f))
theorem lZ (x:U Qd) (y:U Qd) (b:Nat) (zx:gW 20 x) (zy:gW 20 y) (w0:World) (hbp:PV w0 b [.iface 55 (.agg #[])]):Calls zP 208 #[(vUD x),(vUD y),(ptr b 0)] w0 (RetP w0 (.bool (d6 x y)) (True)):=by
 refine enter (N:=19) Tryz.func208 rfl rfl ?_; intro ac h
 refine gz h <| (xb) fun b1=>(xb) fun b2=>(xg (hs:=by exact fun hg=>(Rd.of_nil (r_ldP hbp Tryz.isAgg162 Tryz.sizeOf162 rfl rfl rfl (v:=(.iface 55 (.agg #[]))) rfl)).step)) <| (xg (hs:=by exact fun hg=>fi enA (kk (gj x.f y.f zx.2 zy.2)))) <| (W) ?_; clear h; intro _ _ h
 exact (rt h) (h.retP (by unfold d6; rfl) trivial)
attribute [irreducible] d6
def eqUQ_K1 (xs:List (U Qd)) (ys:List (U Qd)) (x17:Nat):Bool :=
 true
def pS (xs:List (U Qd)) (ys:List (U Qd)) (x17:Nat):Nx Nat Bool :=
 bif (decide ((x17:Int) < (xs.length:Int))) then
  bif (!(d6 (gt xs x17) (gt ys x17))) then
   .ret false
  else
   .go (x17+1)
 else
  .out x17
def eqUQ (xs:List (U Qd)) (ys:List (U Qd)):Bool :=
 bif (((xs.length:Int)) != ((ys.length:Int))) then
  false
 else
  fin (br (fun s=>pS xs ys s) ((xs.length - 0)+1) 0) (fun s=>eqUQ_K1 xs ys s) (fun r=>r)
theorem eqUQ_ct (xs:List (U Qd)) (xsv:Value) (ys:List (U Qd)) (ysv:Value) (b:Nat) (zxs:All (gW 20) xs) (zys:All (gW 20) ys) (w0:World) (hxsv:View w0 xsv xs) (hysv:View w0 ysv ys) (hbp:PV w0 b [.iface 55 (.agg #[])]):Calls zP 207 #[xsv,ysv,(.func (.func 208) #[] #[(ptr b 0)])] w0 (RetP w0 (.bool (eqUQ xs ys)) (True)):=by
 refine enter (N:=32) Tryz.func207 rfl rfl ?_; intro ac h
 have hlenxs:=hxsv.len
 have hlenys:=hysv.len
 refine oP fun K1 hK1=>?_
 refine rd0 h (az rfl) rfl <| gn hK1 <| gq fun K2 hK2=>gr fun K3 hK3=>g0 (ap rfl) rfl <| g0 (ic uu50 rfl hxsv.sl) rfl <| g0 (ap rfl) rfl <| g0 (ic uu50 rfl hysv.sl) rfl <| g0 (r_neq rfl rfl (m:=(xs.length:Int)) (n:=(ys.length:Int))) rfl <| gn hK3 ?_; clear h; intro _ _ h
 refine kj h rfl (fun hc1=>?_) (fun hc1=>?_)
 ·
  have q:=hc1; try simp at q
  refine gz h <| gr fun K4 hK4=>g0 (az rfl) rfl <| gn hK4 <| gT ?_; clear h; intro _ _ h
  have hd:eqUQ xs ys=false:=pt
  exact (rt h) (h.retP (by rw [hd] <;> rfl) trivial)
 ·
  have q:=hc1; try simp at q
  refine gz h <| gS <| gx hK2 <| gq fun K5 hK5=>gr fun K6 hK6=>g0 (ap rfl) rfl <| g0 (ic uu50 rfl hxsv.sl) rfl <| g0 (ap rfl) rfl <| gn hK6 <| gB ?_; clear h; intro _ _ h
  obtain ⟨X1,hX1⟩:∃ X,br (fun s=>pS xs ys s) ((xs.length - 0)+1) 0=X:=⟨_,rfl⟩
  refine wp_loop_ghost (fun n_ a_ w_=>∃ (x17:Nat),((xs.length - x17) < n_)∧(br (fun s=>pS xs ys s) n_ x17=X1)∧(x17≤xs.length)∧St w0 32 [(1,ysv),(2,(.func (.func 208) #[] #[(ptr b 0)])),(15,xsv),(16,(iN xs.length)),(17,(iN x17))] [] a_ w_) ((xs.length - 0)+1) ⟨0,og,hX1,og,h.rs⟩ ?_
  clear h; rintro n1 _ _ ⟨x17,hm1,hL1,hx17,h⟩
  obtain ⟨m1,rfl⟩:∃ m,n1=m+1:=⟨n1 - 1,by omega⟩
  refine gz h <| gr fun K7 hK7=>g0 (jW rfl rfl) rfl <| gn hK7 <| gq fun K8 hK8=>?_; clear h; intro _ _ h
  refine kj h rfl (fun hc2=>?_) (fun hc2=>?_)
  ·
   have hd2:=of_decide_eq_true hc2
   refine gz h <| gS <| gx hK8 <| gq fun K9 hK9=>gB <| gr fun K10 hK10=>g0 (ap rfl) rfl <| g0 (iw (i:=x17) uu50 zz126 rfl rfl (hxsv.nn (i:=x17) og) og) rfl <| g0 (li (k:=0) aa126 zz126 hxsv (e9 og) rfl (Nat.add_zero _) rfl rfl (v:=(vUD (gt xs x17))) rfl) rfl <| ga (cUD (⟨(⟨(⟨oQ,oQ,false⟩:GR),(⟨oQ,oQ,false⟩:GR),false,false⟩:Iv),oD⟩:U Qd)) vv126 rfl rfl fun b1=>g0 (az rfl) rfl <| gs 0 (cUD (gt xs x17)) rfl zz126 rfl rfl rfl rfl rfl rfl rfl <| gn hK10 <| gr fun K11 hK11=>g0 (ap rfl) rfl <| g0 (ap rfl) rfl <| g0 (iw (i:=x17) uu50 zz126 rfl rfl (hysv.nn (i:=x17) og) og) rfl <| g0 (li (k:=0) aa126 zz126 hysv (e9 og) rfl (Nat.add_zero _) rfl rfl (v:=(vUD (gt ys x17))) rfl) rfl <| ga (cUD (⟨(⟨(⟨oQ,oQ,false⟩:GR),(⟨oQ,oQ,false⟩:GR),false,false⟩:Iv),oD⟩:U Qd)) vv126 rfl rfl fun b2=>gs 0 (cUD (gt ys x17)) rfl zz126 rfl rfl rfl rfl rfl rfl rfl <| gn hK11 <| gr fun K12 hK12=>g0 (ap rfl) rfl <| g1 1 rfl (jg aa126 zz126 rfl rfl rfl (v:=(vUD (gt xs x17))) rfl) rfl <| g1 0 rfl (jg aa126 zz126 rfl rfl rfl (v:=(vUD (gt ys x17))) rfl) rfl <| gc (sZ (cap:=[(ptr b 0)]) Tryz.call208 rfl rfl) (fun w_ hB_ hS_=>lZ (gt xs x17) (gt ys x17) b (All.gt zxs (bK _)) (All.gt zys (bK _)) w_ (hbp.below hB_)) rfl <| g0 (r_not rfl) rfl <| gn hK12 ?_; clear h; intro _ _ h
   replace h:=h.sub (F':=[(1,ysv),(2,(.func (.func 208) #[] #[(ptr b 0)])),(15,xsv),(16,(iN xs.length)),(17,(iN x17)),(30,(.bool (!(d6 (gt xs x17) (gt ys x17)))))]) ⟨rfl,rfl,rfl,rfl,rfl,rfl,trivial⟩
   refine kj h rfl (fun hc3=>?_) (fun hc3=>?_)
   ·
    have q:=hc3; try simp at q
    refine gz h <| gr fun K13 hK13=>g0 (az rfl) rfl <| gn hK13 <| gT ?_; clear h; intro _ _ h
    have hr1:=it hL1 pt
    have hd:eqUQ xs ys=false:=pt
    exact (rt h) (h.retP (by rw [hd] <;> rfl) trivial)
   ·
    have q:=hc3; try simp at q
    refine gz h <| gS <| gN <| gx hK9 <| gR <| g0 (eJ rfl rfl (r:=((x17+1:Nat):Int)) (by rw [IntKind.wrap_i64]; first | omega | grind)) rfl <| g0 (ap rfl) rfl <| gx (fun _ _=>f5) ?_; clear h; intro _ _ h
    have hg:=bF hL1 pt
    exact aF ⟨m1,og,_,og,hg,og,h.re []⟩
  ·
   have hd2:=of_decide_eq_false hc2
   refine jY ?_
   have hx1:=cG hL1 pt
   refine gz h <| gx hK5 <| gr fun K14 hK14=>g0 (az rfl) rfl <| gn hK14 <| gT ?_; clear h; intro _ _ h
   have hd:eqUQ xs ys=true:=pt
   exact (rt h) (h.retP (by rw [hd] <;> rfl) trivial)
attribute [irreducible] eqUQ
def ff (a:List (U Qd)) (b:List (U Qd)):Bool :=
 (eqUQ a b)
theorem mW (a:List (U Qd)) (av:Value) (b:List (U Qd)) (bv:Value) (za:All (gW 20) a) (zb:All (gW 20) b) (w0:World) (hav:View w0 av a) (hbv:View w0 bv b):Calls zP 121 #[(.iface 55 (.agg #[])),av,bv] w0 (RetP w0 (.bool (ff a b)) (True)):=by
 refine enter (N:=11) Tryz.func121 rfl rfl ?_; intro ac h
 have hlena:=hav.len
 have hlenb:=hbv.len
 refine oP fun K1 hK1=>?_
 refine bx h [.iface 55 (.agg #[])] rfl rfl rfl fun b1=>g0 (az rfl) rfl <| gn hK1 <| gr fun K2 hK2=>g0 (ap rfl) rfl <| g0 (ap rfl) rfl <| g0 (nZ rfl) rfl <| gc (ck Tryz.call207 rfl) (fun w_ hB_ hS_=>eqUQ_ct a av b bv b1 za zb w_ (hav.below hB_) (hbv.below hB_) (blk_pv hS_ 0 rfl)) rfl <| g0 (az rfl) rfl <| gn hK2 <| gT ?_; clear h; intro _ _ h
 exact (rt h) (h.retP (by unfold ff; rfl) trivial)
attribute [irreducible] ff
def nE (q:Qd) (x12:Nat):Int :=
 0
def fz (q:Qd) (x12:Nat):Nx Nat Int :=
 bif (decide ((x12:Int) < 3)) then
  bif ((dE (gt [q.c0,q.c1,q.c2] x12)) != 0) then
   .ret 5
  else
   .go (x12+1)
 else
  .out x12
def gP (q:Qd):Int :=
 fin (br (fun s=>fz q s) ((3 - 0)+1) 0) (fun s=>nE q s) (fun r=>r)
theorem nD (q:Qd) (zq:SzD 16 q) (w0:World):Calls zP 370 #[(vD q)] w0 (RetP w0 (.int .i64 (gP q)) (True)):=by
 refine enter (N:=19) Tryz.func370 rfl rfl ?_; intro ac h
 obtain ⟨X1,hX1⟩:∃ X,br (fun s=>fz q s) ((3 - 0)+1) 0=X:=⟨_,rfl⟩
 refine gz h <| (xb) fun b1=>(xo (hs:=by exact r_buildA (α:=GQ) (xs:=[.tmp 6,.tmp 8,.tmp 10]) (vs:=[(vQ q.c0),(vQ q.c1),(vQ q.c2)]) [q.c0,q.c1,q.c2] Tryz.zeroValue110 uu110 zz27 rfl rfl rfl)) <| (W) ?_; clear h; intro _ _ h
 refine wp_loop_ghost (fun n_ a_ w_=>∃ (x12:Nat),((3 - x12) < n_)∧(br (fun s=>fz q s) n_ x12=X1)∧(x12≤3)∧St w0 19 [(11,(.agg (flat [q.c0,q.c1,q.c2]).toArray)),(12,(iN x12))] [.blk b1 (cD q) 53] a_ w_) ((3 - 0)+1) ⟨0,og,hX1,og,h.rs⟩ ?_
 clear h; rintro n1 _ _ ⟨x12,hm1,hL1,hx12,h⟩
 obtain ⟨m1,rfl⟩:∃ m,n1=m+1:=⟨n1 - 1,by omega⟩
 refine gz h <| (ai) ?_ ?_ <;> clear h <;> intro _ _ h hc1
 ·
  have hd1:=of_decide_eq_true hc1
  refine gz h <| (xo (hs:=by exact r_indexA (i:=x12) (us:=[q.c0,q.c1,q.c2]) (u:=(gt [q.c0,q.c1,q.c2] x12)) uu110 zz27 aa27 rfl rfl og (e9 (by simp; omega)) (v:=(vQ (gt [q.c0,q.c1,q.c2] x12))) rfl)) <| (xa) fun b2=>(xk (jE (gt [q.c0,q.c1,q.c2] x12) (All.gt (All.cons zq.1 (All.cons zq.2.1 (All.cons zq.2.2 All.nil))) (wg _)))) <| (ai) ?_ ?_ <;> clear h <;> intro _ _ h hc2
  ·
   have hq2:=hc2; try simp at hq2
   have hr1:=it hL1 pt
   have hd:gP q=5:=pt
   exact (rx h) fun _ _ h=>(h.retP (by rw [hd] <;> rfl) trivial)
  ·
   have hq2:=hc2; try simp at hq2
   have hg:=bF hL1 pt
   exact (nx h) fun _ _ h=>by exact ⟨m1,og,_,og,hg,og,h.re [1]⟩
 ·
  have hd1:=of_decide_eq_false hc1
  have hx1:=cG hL1 pt
  have hd:gP q=0:=pt
  exact (rx h) fun _ _ h=>(h.retP (by rw [hd] <;> rfl) trivial)
attribute [irreducible] gP
def dF (f:Qd):Int :=
 (gP f)
theorem mi (f:Qd) (zf:SzD 30 f) (w0:World):Calls zP 366 #[(.agg #[]),(vD f)] w0 (RetP w0 (.int .i64 (dF f)) (True)):=by
 refine enter (N:=7) Tryz.func366 rfl rfl ?_; intro ac h
 refine gz h <| (xb) fun b1=>(xb) fun b2=>(xk (nD f (dm zf og))) <| (W) ?_; clear h; intro _ _ h
 exact (rt h) (h.retP (by unfold dF; rfl) trivial)
attribute [irreducible] dF
def aw (i:Iv):Bd :=
 (⟨i.lo,i.openLo⟩:Bd)
theorem fy (i:Iv) (zi:SzV 30 i) (w0:World):Calls zP 136 #[(vV i)] w0 (RetP w0 (vW (aw i)) (SzW 30 (aw i))):=by
 refine enter (N:=8) Tryz.func136 rfl rfl ?_; intro ac h
 refine gz h <| (xb) fun b1=>(xa) fun b2=>(xo (hs:=by exact bM vb exs rfl (v:=(vW (⟨i.lo,i.openLo⟩:Bd))) rfl)) <| (W) ?_; clear h; intro _ _ h
 exact ret h rfl (.cell (v:=(vW (⟨i.lo,i.openLo⟩:Bd))) rfl (i:=0) rfl Tryz.isAgg206 Tryz.sizeOf206 rfl rfl rfl .nil) rfl (h.retP (by unfold aw; rfl) (by unfold aw; exact zi.1))
attribute [irreducible] aw
def aH (i:Iv):Bd :=
 (⟨i.hi,(!i.openHi)⟩:Bd)
theorem fP (i:Iv) (zi:SzV 30 i) (w0:World):Calls zP 137 #[(vV i)] w0 (RetP w0 (vW (aH i)) (SzW 30 (aH i))):=by
 refine enter (N:=9) Tryz.func137 rfl rfl ?_; intro ac h
 refine gz h <| (xb) fun b1=>(xa) fun b2=>(xo (hs:=by exact bM vb exs rfl (v:=(vW (⟨i.hi,(!i.openHi)⟩:Bd))) rfl)) <| (W) ?_; clear h; intro _ _ h
 exact ret h rfl (.cell (v:=(vW (⟨i.hi,(!i.openHi)⟩:Bd))) rfl (i:=0) rfl Tryz.isAgg206 Tryz.sizeOf206 rfl rfl rfl .nil) rfl (h.retP (by unfold aH; rfl) (by unfold aH; exact zi.2))
attribute [irreducible] aH
def aS (a:Bd) (b:Bd):Int :=
 bif ((an a.at_ b.at_) != 0) then
  (an a.at_ b.at_)
 else
  bif (a.behind == b.behind) then
   0
  else
   bif b.behind then
    (-1)
   else
    1
theorem eH (a:Bd) (b:Bd) (za:SzW 30 a) (zb:SzW 30 b) (w0:World):Calls zP 135 #[(vW a),(vW b)] w0 (RetP w0 (.int .i64 (aS a b)) ((-1≤(aS a b)∧(aS a b)≤1))):=by
 refine enter (N:=23) Tryz.func135 rfl rfl ?_; intro ac h
 have p2:=ay ((aR a.at_ b.at_ 10 og za zb) w0)
 refine gz h <| (xb) fun b1=>(xb) fun b2=>(xk (aR a.at_ b.at_ 10 og za zb)) <| (ai) ?_ ?_ <;> clear h <;> intro _ _ h hc1
 ·
  have q:=hc1; try simp at q
  have hd:aS a b=(an a.at_ b.at_):=pt
  exact (rx h) fun _ _ h=>(h.retP (by rw [hd] <;> rfl) (by rw [hd]; exact og))
 ·
  have q:=hc1; try simp at q
  refine gz h <| (xo (hs:=by exact xf Tryz.underlying4 rfl rfl)) <| (ai) ?_ ?_ <;> clear h <;> intro _ _ h hc2
  ·
   have hd2:=eq_of_beq hc2
   have hd:aS a b=0:=pt
   exact (rx h) fun _ _ h=>(h.retP (by rw [hd] <;> rfl) (by rw [hd]; exact og))
  ·
   have hd2:=ne_of_beq_false hc2
   refine gz h <| (ai) ?_ ?_ <;> clear h <;> intro _ _ h hc3
   ·
    have q:=hc3; try simp at q
    have hd:aS a b=(-1):=pt
    exact (rx h) fun _ _ h=>(h.retP (by rw [hd] <;> rfl) (by rw [hd]; exact og))
   ·
    have q:=hc3; try simp at q
    have hd:aS a b=1:=pt
    exact (rx h) fun _ _ h=>(h.retP (by rw [hd] <;> rfl) (by rw [hd]; exact og))
attribute [irreducible] aS
end Go.Sx
namespace Go.Sx
open Go Go.RowKit Go.Proofs
attribute [local irreducible] Code.wp wpList Rd gX ObS Ent
attribute [local irreducible] an bD ah aN aC dg
theorem sH (w : World) : (method (Tryz.prog.types.size + Made.depth) 55 (.agg #[]) "Check").run zP w = .ok (366, .agg #[]) w := kK (P := zP) (T := 55) Tryz.type55 (by kernel_rfl) uu55 w
instance zi70 : Mt zP 55 (.agg #[]) "Check" 366 := ⟨sH⟩
theorem rl (w : World) : (nilAhead (Tryz.prog.types.size + Made.depth) 55 (.agg #[]) "Check").run zP w = .ok (some false) w := jl (P := zP) (T := 55) (f := 366) Tryz.type55 (by kernel_rfl) uu55 w
instance zi71 : Nl zP 55 (.agg #[]) "Check" := ⟨rl⟩
def ch (a:GI):GI×Bool :=
 bif a.neg then
  ((⟨false,0⟩:GI),false)
 else
  bif (!(decide ((fU (dK a.mag) (dK a.mag))=a.mag))) then
   ((⟨false,0⟩:GI),false)
  else
   ((aP false (dK a.mag)),true)
theorem kv (a:GI) (ha:0 < a.mag∧a.mag < 4) (za:SzI 30 a) (w0:World):Calls zP 276 #[(vI a)] w0 (RetP w0 (.tuple #[(vI ((ch a).1)),(.bool ((ch a).2))]) (SzI 28 ((ch a).1))):=by
 refine enter (N:=20) Tryz.func276 rfl rfl ?_; intro ac h
 refine gz h <| (xb) fun b1=>(xa) fun b2=>(ai) ?_ ?_ <;> clear h <;> intro _ _ h hc1
 ·
  have q:=hc1; try simp at q
  have hd:ch a=((⟨false,0⟩:GI),false):=pt
  refine gz h <| (xo (hs:=by exact bM qx exs rfl (v:=(vI (⟨false,0⟩:GI))) rfl)) <| (W) ?_; clear h; intro _ _ h
  exact ret h rfl (.cell (v:=(vI (⟨false,0⟩:GI))) rfl (i:=0) rfl aa25 zz25 rfl rfl rfl (.tmp rfl .nil)) rfl (h.retP (by rw [hd] <;> rfl) (by rw [hd]; exact (bI 0 DC og)))
 ·
  have q:=hc1; try simp at q
  have c1:=mA a.mag ha.2 za
  have s1:=Calls.pr (c1 w0)
  refine gz h <| (xk (c1)) <| (W) ?_; clear h; intro _ _ h
  have c2:=kV (dK a.mag) (dK a.mag) 28 og s1 s1
  have s2:=ay (c2 w0)
  refine gz h <| (dr0 (hob:=(oK (c2)) <| oE)) <| (ai) ?_ ?_ <;> clear h <;> intro _ _ h hc2
  ·
   have q:=hc2; try simp at q
   have hd:ch a=((⟨false,0⟩:GI),false):=pt
   refine gz h <| (xo (hs:=by exact bM qx exs rfl (v:=(vI (⟨false,0⟩:GI))) rfl)) <| (W) ?_; clear h; intro _ _ h
   exact ret h rfl (.cell (v:=(vI (⟨false,0⟩:GI))) rfl (i:=0) rfl aa25 zz25 rfl rfl rfl (.tmp rfl .nil)) rfl (h.retP (by rw [hd] <;> rfl) (by rw [hd]; exact (bI 0 DC og)))
  ·
   have q:=hc2; try simp at q
   have c3:=ce false (dK a.mag) 29 og s1
   have s3:=ay (c3 w0)
   have hd:ch a=((aP false (dK a.mag)),true):=pt
   refine gz h <| (xk (c3)) <| (W) ?_; clear h; intro _ _ h
   exact ret h rfl (.cell (v:=(vI (aP false (dK a.mag)))) rfl (i:=0) rfl aa25 zz25 rfl rfl rfl (.tmp rfl .nil)) rfl (h.retP (by rw [hd] <;> rfl) (by rw [hd]; exact (gu s3 og)))
attribute [irreducible] ch
def g7 (a:GQ):GQ×Bool :=
 bif ((!(ch a.num).2) || (!(ch (aa a)).2)) then
  ((⟨(⟨false,0⟩:GI),(⟨false,0⟩:GI)⟩:GQ),false)
 else
  ((bH ((ch a.num).1) ((ch (aa a)).1)),true)
theorem oU (a:GQ) (ha:a.num.mag=2∧a.den=⟨false,0⟩) (za:SzQ 30 a) (w0:World):Calls zP 219 #[(vQ a)] w0 (RetP w0 (.tuple #[(vQ ((g7 a).1)),(.bool ((g7 a).2))]) (SzQ 20 ((g7 a).1))):=by
 refine enter (N:=30) Tryz.func219 rfl rfl ?_; intro ac h
 have c1:=kv a.num og za.1
 have s1:=Calls.pr (c1 w0)
 have c2:=cd a 30 og za
 have s2:=ay (c2 w0)
 have c3:=kv (aa a) (yc ha.2) s2
 have s3:=Calls.pr (c3 w0)
 refine gz h <| (xb) fun b1=>(xa) fun b2=>(xk (c1)) <| (xa) fun b3=>(xk (c2)) <| (xk (c3)) <| (xa) fun b4=>(ai) ?_ ?_ <;> clear h <;> intro _ _ h hc1
 ·
  have q:=hc1; try simp at q
  have hd:g7 a=(oQ,false):=pt
  refine gz h <| (xo (hs:=by exact bM qe exs rfl (v:=(vQ oQ)) rfl)) <| (W) ?_; clear h; intro _ _ h
  exact ret h rfl (.cell (v:=(vQ oQ)) rfl (i:=2) rfl aa27 zz27 rfl rfl rfl (.tmp rfl .nil)) rfl (h.retP (by rw [hd] <;> rfl) (by rw [hd]; exact ⟨(bI 0 DC og),(bI 0 DC og)⟩))
 ·
  have q:=hc1; try simp at q
  have c4:=eF ((ch a.num).1) ((ch (aa a)).1) 27 og s1 s3
  have s4:=ay (c4 w0)
  have hd:g7 a=((bH ((ch a.num).1) ((ch (aa a)).1)),true):=pt
  refine gz h <| (xk (c4)) <| (W) ?_; clear h; intro _ _ h
  exact ret h rfl (.cell (v:=(vQ (bH ((ch a.num).1) ((ch (aa a)).1)))) rfl (i:=2) rfl aa27 zz27 rfl rfl rfl (.tmp rfl .nil)) rfl (h.retP (by rw [hd] <;> rfl) (by rw [hd]; exact (f8 s4 og)))
attribute [irreducible] g7
def gg (x:GR):Int :=
 bif (((dE x.p) != 0) || ((dE x.r) != 0)) then
  5
 else
  bif ((aN x.r) == (-1)) then
   5
  else
   bif ((aN x.r) == 0) then
    bif x.neg then
     5
    else
     0
   else
    bif (g7 x.r).2 then
     5
    else
     0
theorem nC (x:GR) (hr:RtR x) (zx:SzR 30 x) (w0:World):Calls zP 134 #[(vR x)] w0 (RetP w0 (.int .i64 (gg x)) (True)):=by
 refine enter (N:=31) Tryz.func134 rfl rfl ?_; intro ac h
 refine gz h <| (xb) fun b1=>(xk (jE x.p (f8 zx.1 og))) <| (xg (hs:=by exact fun hg=>fi enA (kk (jE x.r (f8 zx.2 og))))) <| (ai) ?_ ?_ <;> clear h <;> intro _ _ h hc1
 ·
  have q:=hc1; try simp at q
  have hd:gg x=5:=pt
  exact (rx h) fun _ _ h=>(h.retP (by rw [hd] <;> rfl) trivial)
 ·
  have q:=hc1; try simp at q
  have p2:=ay ((dC x.r) w0)
  refine gz h <| (xk (dC x.r)) <| (ai) ?_ ?_ <;> clear h <;> intro _ _ h hc2
  ·
   have hd2:=eq_of_beq hc2
   have hd:gg x=5:=pt
   exact (rx h) fun _ _ h=>(h.retP (by rw [hd] <;> rfl) trivial)
  ·
   have hd2:=ne_of_beq_false hc2
   refine gz h <| (ai) ?_ ?_ <;> clear h <;> intro _ _ h hc3
   ·
    have hd3:=eq_of_beq hc3
    refine gz h <| (ai) ?_ ?_ <;> clear h <;> intro _ _ h hc4
    ·
     have q:=hc4; try simp at q
     have hd:gg x=5:=pt
     exact (rx h) fun _ _ h=>(h.retP (by rw [hd] <;> rfl) trivial)
    ·
     have q:=hc4; try simp at q
     have hd:gg x=0:=pt
     exact (rx h) fun _ _ h=>(h.retP (by rw [hd] <;> rfl) trivial)
   ·
    have hd3:=ne_of_beq_false hc3
    have c3:=oU x.r (root_pre hr (by assumption)) zx.2
    have s3:=Calls.pr (c3 w0)
    refine gz h <| (xk (c3)) <| (xa) fun b2=>(ai) ?_ ?_ <;> clear h <;> intro _ _ h hc5
    ·
     have q:=hc5; try simp at q
     have hd:gg x=5:=pt
     exact (rx h) fun _ _ h=>(h.retP (by rw [hd] <;> rfl) trivial)
    ·
     have q:=hc5; try simp at q
     have hd:gg x=0:=pt
     exact (rx h) fun _ _ h=>(h.retP (by rw [hd] <;> rfl) trivial)
attribute [irreducible] gg
def cw (i:Iv):Int :=
 bif (((gg i.lo) != 0) || ((gg i.hi) != 0)) then
  5
 else
  bif (decide ((aS (aw i) (aH i))≥0)) then
   10
  else
   0
theorem lH (i:Iv) (hv:RtV i) (zi:SzV 30 i) (w0:World):Calls zP 44 #[(vV i)] w0 (RetP w0 (.int .i64 (cw i)) (True)):=by
 refine enter (N:=19) Tryz.func44 rfl rfl ?_; intro ac h
 refine gz h <| (xb) fun b1=>(xk (nC i.lo hv.1 zi.1)) <| (xg (hs:=by exact fun hg=>fi enA (kk (nC i.hi hv.2 zi.2)))) <| (ai) ?_ ?_ <;> clear h <;> intro _ _ h hc1
 ·
  have q:=hc1; try simp at q
  have hd:cw i=5:=pt
  exact (rx h) fun _ _ h=>(h.retP (by rw [hd] <;> rfl) trivial)
 ·
  have q:=hc1; try simp at q
  refine gz h <| (W) ?_; clear h; intro _ _ h
  have s1:=Calls.pr ((fun w_ hB_ hS_=>fy i zi w_ ) _ h.bel h.sep)
  have s2:=Calls.pr ((fun w_ hB_ hS_=>fP i zi w_ ) _ h.bel h.sep)
  have s3:=Calls.pr ((fun w_ hB_ hS_=>eH (aw i) (aH i) s1 s2 w_ ) _ h.bel h.sep)
  have p4:=s3
  refine gz h <| (dr0 (hob:=(oX (h:=by exact fun _=>kn (fi (vs:=[(vV i)]) (ck Tryz.call136 rfl) (fun w_ hB_ hS_=>fy i zi w_ )))) <| (oK (fP i zi)) <| (oK (eH (aw i) (aH i) s1 s2)) <| oE)) <| (ai) ?_ ?_ <;> clear h <;> intro _ _ h hc2
  ·
   have hd2:=of_decide_eq_true hc2
   have hd:cw i=10:=pt
   exact (rx h) fun _ _ h=>(h.retP (by rw [hd] <;> rfl) trivial)
  ·
   have hd2:=of_decide_eq_false hc2
   have hd:cw i=0:=pt
   exact (rx h) fun _ _ h=>(h.retP (by rw [hd] <;> rfl) trivial)
attribute [irreducible] cw
def gF (l:List (U Qd)) (x16:Nat):Int :=
 bif ((((bo l).2) != 0) || (!(ff l ((bo l).1)))) then
  5
 else
  0
def eP (l:List (U Qd)) (x16:Nat):Nx Nat Int :=
 bif (decide ((x16:Int) < (l.length:Int))) then
  bif ((cw ((gt l x16).iv)) != 0) then
   .ret (cw ((gt l x16).iv))
  else
   bif ((dF ((gt l x16).f)) != 0) then
    .ret (dF ((gt l x16).f))
   else
    bif ((decide ((x16:Int)>0)) && (!(ef ((gt l (x16 - 1)).iv) ((gt l x16).iv)))) then
     .ret 7
    else
     .go (x16+1)
 else
  .out x16
def iF (l:List (U Qd)):Int :=
 bif (decide ((l.length:Int)>256)) then
  3
 else
  fin (br (fun s=>eP l s) ((l.length - 0)+1) 0) (fun s=>gF l s) (fun r=>r)
attribute [irreducible] iF
end Go.Sx
