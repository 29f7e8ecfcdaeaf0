/- A part of the proof of movingnumberChecks. -/
import Derived.Test.YtpfdaoajcnophaaGreatDoorB8
import Derived.Test.YtpfdaoajcnophaaGreatDoorC6
import Derived.Test.YtpfdaoajcnophaaGreatDoorProg
import Derived.Test.YtpfdaoajcnophaaGreatDoorC2
import Derived.Test.YtpfdaoajcnophaaGreatDoorC3
import Derived.Test.YtpfdaoajcnophaaGreatDoorC4
import Derived.Shelf.SlSortCmp.WholeK
import Derived.Test.YtpfdaoajcnophaaGreatDoorB1
import Derived.RangeFuncRecord
import Derived.Test.YtpfdaoajcnophaaGreatDoorC1
set_option linter.unusedVariables false
set_option linter.unusedSimpArgs false
open Go.Proofs.Tryz renaming runUnderlying92 → uu92, isAgg27 → aa27, sizeOf27 → zz27, runUnderlying39 → uu39, runUnderlying145 → uu145, runUnderlying165 → uu165, runUnderlying49 → uu49
namespace Go.Sx
open Go Go.RowKit Go.Proofs
set_option maxRecDepth 100000
set_option maxHeartbeats 40000000
attribute [local irreducible] Code.wp wpList Rd Step ObS Ent
attribute [local irreducible] ah ak aq an bN
theorem tf (w : World) : (method (Tryz.prog.types.size + Made.depth) 92 (.agg #[]) "Check").run Tryz.prog w = .ok (402, .agg #[]) w := oL (P := Tryz.prog) (T := 92) Tryz.type92 (by kernel_rfl) uu92 w
instance yC7_1 : Mt Tryz.prog 92 (.agg #[]) "Check" 402 := ⟨tf⟩
theorem rL (w : World) : (nilAhead (Tryz.prog.types.size + Made.depth) 92 (.agg #[]) "Check").run Tryz.prog w = .ok (some false) w := lU (P := Tryz.prog) (T := 92) (f := 402) Tryz.type92 (by kernel_rfl) uu92 w
instance yC7_2 : Nl Tryz.prog 92 (.agg #[]) "Check" := ⟨rL⟩
def a7 (a:GI):GI×Bool :=
 bif a.neg then
  ((⟨false,0⟩:GI),false)
 else
  bif (!(decide ((ee (bM a.mag) (bM a.mag))=a.mag))) then
   ((⟨false,0⟩:GI),false)
  else
   ((aD false (bM a.mag)),true)
theorem jJ (a:GI) (za:SzI 30 a) (w0:World) :Calls Tryz.prog 228 #[(vI a)] w0 (dh w0 (.tuple #[(vI ((a7 a).1)),(.bool ((a7 a).2))]) (SzI 28 ((a7 a).1))):=by
 refine enter (N:=20) (args:=[(vI a)]) Tryz.func228 rfl rfl ?_; intro ac h
 refine gz h <| (xb) fun b1=>(xa) fun b2=>(ai) ?_ ?_ <;> clear h ac <;> intro ac wo h hc1
 ·
   have hq1:=hc1; try simp at hq1
   have hd:a7 a=((⟨false,0⟩:GI),false):=pt
   refine gz h <| (xo (hs:=by exact bX qo exs rfl (v:=(vI (⟨false,0⟩:GI))) rfl)) <| (W) ?_; clear h ac wo; intro ac wo h
   exact ret h rfl (.cell (v:=(vI (⟨false,0⟩:GI))) rfl (i:=0) rfl aa27 zz27 rfl rfl rfl (.tmp rfl .nil)) rfl (h.retP (by rw [hd] <;> rfl) (by rw [hd]; exact (ed 0 (by decide) og)))
 ·
   have hq1:=hc1; try simp at hq1
   have c1:=root_ct a.mag za
   have s1:=Calls.pr (c1 w0)
   refine gz h <| (xk (c1)) <| (W) ?_; clear h ac wo; intro ac wo h
   have c2:=km (bM a.mag) (bM a.mag) 28 og s1 s1
   have s2:=ar (c2 w0)
   refine gz h <| (dr0 (hob:=(oK (c2)) <| oE)) <| (ai) ?_ ?_ <;> clear h ac wo <;> intro ac wo h hc2
   ·
     have hq2:=hc2; try simp at hq2
     have hd:a7 a=((⟨false,0⟩:GI),false):=pt
     refine gz h <| (xo (hs:=by exact bX qo exs rfl (v:=(vI (⟨false,0⟩:GI))) rfl)) <| (W) ?_; clear h ac wo; intro ac wo h
     exact ret h rfl (.cell (v:=(vI (⟨false,0⟩:GI))) rfl (i:=0) rfl aa27 zz27 rfl rfl rfl (.tmp rfl .nil)) rfl (h.retP (by rw [hd] <;> rfl) (by rw [hd]; exact (ed 0 (by decide) og)))
   ·
     have hq2:=hc2; try simp at hq2
     have c3:=cu false (bM a.mag) 29 og s1
     have s3:=ar (c3 w0)
     have hd:a7 a=((aD false (bM a.mag)),true):=pt
     refine gz h <| (xk (c3)) <| (W) ?_; clear h ac wo; intro ac wo h
     exact ret h rfl (.cell (v:=(vI (aD false (bM a.mag)))) rfl (i:=0) rfl aa27 zz27 rfl rfl rfl (.tmp rfl .nil)) rfl (h.retP (by rw [hd] <;> rfl) (by rw [hd]; exact (fV s3 og)))
attribute [irreducible] a7
def bP (a:GQ):GQ×Bool :=
 bif ((!(a7 a.num).2) || (!(a7 (aa a)).2)) then
  ((⟨(⟨false,0⟩:GI),(⟨false,0⟩:GI)⟩:GQ),false)
 else
  ((aZ ((a7 a.num).1) ((a7 (aa a)).1)),true)
theorem kH (a:GQ) (za:SzQ 30 a) (w0:World) :Calls Tryz.prog 124 #[(vQ a)] w0 (dh w0 (.tuple #[(vQ ((bP a).1)),(.bool ((bP a).2))]) (SzQ 20 ((bP a).1))):=by
 refine enter (N:=30) (args:=[(vQ a)]) Tryz.func124 rfl rfl ?_; intro ac h
 have c1:=jJ a.num za.1
 have s1:=Calls.pr (c1 w0)
 have c2:=bJ a 30 og za
 have s2:=ar (c2 w0)
 have c3:=jJ (aa a) s2
 have s3:=Calls.pr (c3 w0)
 refine gz h <| (xb) fun b1=>(xa) fun b2=>(xk (c1)) <| (xa) fun b3=>(xk (c2)) <| (xk (c3)) <| (xa) fun b4=>(ai) ?_ ?_ <;> clear h ac <;> intro ac wo h hc1
 ·
  have hq1:=hc1; try simp at hq1
  have hd:bP a=(oQ,false):=pt
  refine gz h <| (xo (hs:=by exact bX mR exs rfl (v:=(vQ oQ)) rfl)) <| (W) ?_; clear h ac wo; intro ac wo h
  exact ret h rfl (.cell (v:=(vQ oQ)) rfl (i:=2) rfl Tryz.isAgg29 Tryz.sizeOf29 rfl rfl rfl (.tmp rfl .nil)) rfl (h.retP (by rw [hd] <;> rfl) (by rw [hd]; exact ⟨(ed 0 (by decide) og),(ed 0 (by decide) og)⟩))
 ·
  have hq1:=hc1; try simp at hq1
  have c4:=dV ((a7 a.num).1) ((a7 (aa a)).1) 27 og s1 s3
  have s4:=ar (c4 w0)
  have hd:bP a=((aZ ((a7 a.num).1) ((a7 (aa a)).1)),true):=pt
  refine gz h <| (xk (c4)) <| (W) ?_; clear h ac wo; intro ac wo h
  exact ret h rfl (.cell (v:=(vQ (aZ ((a7 a.num).1) ((a7 (aa a)).1)))) rfl (i:=2) rfl Tryz.isAgg29 Tryz.sizeOf29 rfl rfl rfl (.tmp rfl .nil)) rfl (h.retP (by rw [hd] <;> rfl) (by rw [hd]; exact (di s4 og)))
attribute [irreducible] bP
def dO (x:GR):Int :=
 bif (((ce x.p) != 0) || ((ce x.r) != 0)) then
  5
 else
  bif ((aq x.r) == (-1)) then
   5
  else
   bif ((aq x.r) == 0) then
    bif x.neg then
     5
    else
     0
   else
    bif (bP x.r).2 then
     5
    else
     0
theorem iY (x:GR) (hr:RtR x) (zx:SzR 30 x) (w0:World) :Calls Tryz.prog 22 #[(vR x)] w0 (dh w0 (.int .i64 (dO x)) (True)):=by
 refine enter (N:=31) (args:=[(vR x)]) Tryz.func22 rfl rfl ?_; intro ac h
 refine gz h <| (xb) fun b1=>(xk (il x.p (di zx.1 og))) <| (xg (hs:=by exact fun hg=>fq enA (kk (il x.r (di zx.2 og))))) <| (ai) ?_ ?_ <;> clear h ac <;> intro ac wo h hc1
 ·
  have hq1:=hc1; try simp at hq1
  have hd:dO x=5:=pt
  refine gz h <| (W) ?_; clear h ac wo; intro ac wo h
  exact (rt h) (h.retP (by rw [hd] <;> rfl) trivial)
 ·
  have hq1:=hc1; try simp at hq1
  have p2:=ar ((cB x.r) w0)
  refine gz h <| (xk (cB x.r)) <| (ai) ?_ ?_ <;> clear h ac wo <;> intro ac wo h hc2
  ·
   have hd2:=eq_of_beq hc2
   have hd:dO x=5:=pt
   refine gz h <| (W) ?_; clear h ac wo; intro ac wo h
   exact (rt h) (h.retP (by rw [hd] <;> rfl) trivial)
  ·
   have hd2:=ne_of_beq_false hc2
   refine gz h <| (ai) ?_ ?_ <;> clear h ac wo <;> intro ac wo h hc3
   ·
    have hd3:=eq_of_beq hc3
    refine gz h <| (ai) ?_ ?_ <;> clear h ac wo <;> intro ac wo h hc4
    ·
     have hq4:=hc4; try simp at hq4
     have hd:dO x=5:=pt
     refine gz h <| (W) ?_; clear h ac wo; intro ac wo h
     exact (rt h) (h.retP (by rw [hd] <;> rfl) trivial)
    ·
     have hq4:=hc4; try simp at hq4
     have hd:dO x=0:=pt
     refine gz h <| (W) ?_; clear h ac wo; intro ac wo h
     exact (rt h) (h.retP (by rw [hd] <;> rfl) trivial)
   ·
    have hd3:=ne_of_beq_false hc3
    have c3:=kH x.r zx.2
    have s3:=Calls.pr (c3 w0)
    refine gz h <| (xk (c3)) <| (xa) fun b2=>(ai) ?_ ?_ <;> clear h ac wo <;> intro ac wo h hc5
    ·
     have hq5:=hc5; try simp at hq5
     have hd:dO x=5:=pt
     refine gz h <| (W) ?_; clear h ac wo; intro ac wo h
     exact (rt h) (h.retP (by rw [hd] <;> rfl) trivial)
    ·
     have hq5:=hc5; try simp at hq5
     have hd:dO x=0:=pt
     refine gz h <| (W) ?_; clear h ac wo; intro ac wo h
     exact (rt h) (h.retP (by rw [hd] <;> rfl) trivial)
attribute [irreducible] dO
def bI (i:Iv):Int :=
 bif (((dO i.lo) != 0) || ((dO i.hi) != 0)) then
  5
 else
  bif (decide ((bW (aJ i) (aI i))≥0)) then
   10
  else
   0
theorem gw (i:Iv) (hv:RtV i) (zi:SzV 30 i) (w0:World) :Calls Tryz.prog 174 #[(vV i)] w0 (dh w0 (.int .i64 (bI i)) (True)):=by
 refine enter (N:=19) (args:=[(vV i)]) Tryz.func174 rfl rfl ?_; intro ac h
 refine gz h <| (xb) fun b1=>(xk (iY i.lo hv.1 zi.1)) <| (xg (hs:=by exact fun hg=>fq enA (kk (iY i.hi hv.2 zi.2)))) <| (ai) ?_ ?_ <;> clear h ac <;> intro ac wo h hc1
 ·
   have hq1:=hc1; try simp at hq1
   have hd:bI i=5:=pt
   refine gz h <| (W) ?_; clear h ac wo; intro ac wo h
   exact (rt h) (h.retP (by rw [hd] <;> rfl) trivial)
 ·
   have hq1:=hc1; try simp at hq1
   refine gz h <| (W) ?_; clear h ac wo; intro ac wo h
   have s1:=Calls.pr ((fun w_ hB_ hS_=>gi i zi w_ ) _ h.bel h.sep)
   have s2:=Calls.pr ((fun w_ hB_ hS_=>gI i zi w_ ) _ h.bel h.sep)
   have s3:=Calls.pr ((fun w_ hB_ hS_=>im (aJ i) (aI i) s1 s2 w_ ) _ h.bel h.sep)
   have p4:=s3
   refine gz h <| (dr0 (hob:=(oX (h:=by exact fun _=>i0 (fq (vs:=[(vV i)]) (cz Tryz.call136 rfl) (fun w_ hB_ hS_=>gi i zi w_ )))) <| (oK (gI i zi)) <| (oK (im (aJ i) (aI i) s1 s2)) <| oE)) <| (ai) ?_ ?_ <;> clear h ac wo <;> intro ac wo h hc2
   ·
     have hd2:=of_decide_eq_true hc2
     have hd:bI i=10:=pt
     refine gz h <| (W) ?_; clear h ac wo; intro ac wo h
     exact (rt h) (h.retP (by rw [hd] <;> rfl) trivial)
   ·
     have hd2:=of_decide_eq_false hc2
     have hd:bI i=0:=pt
     refine gz h <| (W) ?_; clear h ac wo; intro ac wo h
     exact (rt h) (h.retP (by rw [hd] <;> rfl) trivial)
attribute [irreducible] bI
def jI (l:List (U Qd)) (x16:Nat):Int :=
 bif ((((aF l).2) != 0) || (!(eK l ((aF l).1)))) then
  5
 else
  0
def eS (l:List (U Qd)) (x16:Nat):Nx Nat Int :=
 bif (decide (((x16:Nat):Int) < ((l.length:Nat):Int))) then
  bif ((bI ((gt l x16).iv)) != 0) then
   .ret (bI ((gt l x16).iv))
  else
   bif ((dr ((gt l x16).f)) != 0) then
    .ret (dr ((gt l x16).f))
   else
    bif ((decide (((x16:Nat):Int)>0)) && (!(cA ((gt l (x16 - 1)).iv) ((gt l x16).iv)))) then
     .ret 7
    else
     .go (x16+1)
 else
  .out x16
def cL (l:List (U Qd)):Int :=
 bif (decide (((l.length:Nat):Int)>256)) then
  3
 else
  fin (bZ (fun s=>eS l s) ((l.length - 0)+1) 0) (fun s=>jI l s) (fun r=>r)
theorem mr (l:List (U Qd)) (lv:Value) (hl:l.length < 20) (hv:∀ j,RtV (gt l j).iv) (zl:All (g6 30) l) (w0:World) (hlv:View w0 lv l):Calls Tryz.prog 62 #[(.iface 92 (.agg #[])),lv] w0 (dh w0 (.int .i64 (cL l)) (True)):=by
 refine enter (N:=64) (args:=[(.iface 92 (.agg #[])),lv]) Tryz.func62 rfl rfl ?_; intro ac h
 have hlenl:=hlv.len
 refine gz h <| (ai) ?_ ?_ <;> clear h ac <;> intro ac wo h hc1
 ·
  have hd1:=of_decide_eq_true hc1
  have hd:cL l=3:=pt
  refine gz h <| (W) ?_; clear h ac wo; intro ac wo h
  exact (rt h) (h.retP (by rw [hd] <;> rfl) trivial)
 ·
  have hd1:=of_decide_eq_false hc1
  obtain ⟨X1,hX1⟩:∃ X,bZ (fun s=>eS l s) ((l.length - 0)+1) 0=X:=⟨_,rfl⟩
  refine gz h <| (W) ?_; clear h ac wo; intro ac wo h
  refine wp_loop_ghost (fun n_ a_ w_=>∃ (x16:Nat),((l.length - x16) < n_)∧(bZ (fun s=>eS l s) n_ x16=X1)∧(x16≤l.length)∧St w0 64 [(0,(.iface 92 (.agg #[]))),(1,lv),(14,lv),(15,(.int .i64 ((l.length:Nat):Int))),(16,(.int .i64 ((x16:Nat):Int)))] [] a_ w_) ((l.length - 0)+1) ⟨0,og,hX1,og,h.rs⟩ ?_
  clear h ac wo; rintro n1 ac wo ⟨x16,hm1,hL1,hx16,h⟩
  obtain ⟨m1,rfl⟩:∃ m,n1=m+1:=⟨n1 - 1,by omega⟩
  refine gz h <| (ai) ?_ ?_ <;> clear h ac wo <;> intro ac wo h hc2
  ·
   have hd2:=of_decide_eq_true hc2
   refine gz h <| (xa) fun b1=>(xk (gw ((gt l x16).iv) (hv _) (All.gt zl (bG _)).1)) <| (ai) ?_ ?_ <;> clear h ac wo <;> intro ac wo h hc3
   ·
    have hq3:=hc3; try simp at hq3
    have hr1:=lh hL1 pt
    have hd:cL l=(bI ((gt l x16).iv)):=pt
    refine gz h <| (W) ?_; clear h ac wo; intro ac wo h
    exact (rt h) (h.retP (by rw [hd] <;> rfl) trivial)
   ·
    have hq3:=hc3; try simp at hq3
    refine gz h <| (xk (jA ((gt l x16).f) (All.gt zl (bG _)).2)) <| (ai) ?_ ?_ <;> clear h ac wo <;> intro ac wo h hc4
    ·
     have hq4:=hc4; try simp at hq4
     have hr1:=lh hL1 pt
     have hd:cL l=(dr ((gt l x16).f)):=pt
     refine gz h <| (W) ?_; clear h ac wo; intro ac wo h
     exact (rt h) (h.retP (by rw [hd] <;> rfl) trivial)
    ·
     have hq4:=hc4; try simp at hq4
     refine gz h <| (dr0 (hob:=(oG (by exact fun hg=>jX ((gt l (x16 - 1)).iv) ((gt l x16).iv) 10 og (All.gt zl (bG _)).1 (All.gt zl (bG _)).1)) <| oE)) <| (ai) ?_ ?_ <;> clear h ac wo <;> intro ac wo h hc5
     ·
      have hq5:=hc5; try simp at hq5
      have hr1:=lh hL1 pt
      have hd:cL l=7:=pt
      refine gz h <| (W) ?_; clear h ac wo; intro ac wo h
      exact (rt h) (h.retP (by rw [hd] <;> rfl) trivial)
     ·
      have hq5:=hc5; try simp at hq5
      refine gz h <| (W) ?_; clear h ac wo; intro ac wo h
      have hg:=cZ hL1 pt
      exact az ⟨m1,og,_,og,hg,og,h.re []⟩
  ·
   have hd2:=of_decide_eq_false hc2
   have hx1:=eh hL1 pt
   refine gz h <| (W) ?_; clear h ac wo; intro ac wo h
   have s1:=RetT.pr ((fun w_ hB_ hS_=>eH l lv og zl w_ (hlv.below hB_)) _ h.bel h.sep)
   have p2:=s1.2
   refine sg (xs:=(aF l).1) h (cz Tryz.call45 rfl) (fun w_ hB_ hS_=>eH l lv og zl w_ (hlv.below hB_)) rfl ?_; clear h ac wo; intro sv3 ac wo _ h
   refine gz h <| (xg (hs:=by exact fun hg=>fq enA (fun w_ hB_ hS_=>jH l lv ((aF l).1) sv3 (All.mono zl (fun _ h_=>oz h_ og)) s1.1 w_ (hlv.below hB_) (row_view hS_ 0 rfl)))) <| (ai) ?_ ?_ <;> clear h ac wo <;> intro ac wo h hc6
   ·
    have hq6:=hc6; try simp at hq6
    have hd:cL l=5:=pt
    refine gz h <| (W) ?_; clear h ac wo; intro ac wo h
    exact (rt h) (h.retP (by rw [hd] <;> rfl) trivial)
   ·
    have hq6:=hc6; try simp at hq6
    have hd:cL l=0:=pt
    refine gz h <| (W) ?_; clear h ac wo; intro ac wo h
    exact (rt h) (h.retP (by rw [hd] <;> rfl) trivial)
attribute [irreducible] cL
end Go.Sx
namespace Go.Sx
theorem vC:∀ (f n:Nat),n≤f→n≠0→((leF f n).reverse.headD 0).toNat≠0
 | 0,n,h,h0=>absurd (by omega) h0
 | f+1,n,h,h0=>by
  unfold leF
  have hb:Nat.beq n 0=false:=by
   cases e:Nat.beq n 0 with
   | false=>rfl
   | true=>exact absurd (Nat.eq_of_beq_eq_true e) h0
  rw [hb,cond_false,List.reverse_cons]
  by_cases e:n / 256=0
  · rw [e,mj]
    show (UInt8.ofNat (n % 256)).toNat≠0
    rw [UInt8.toNat_ofNat']
    omega
  · have ih:=vC f (n / 256) (by omega) e
    cases hr:(leF f (n / 256)).reverse with
    | nil =>
     rw [hr] at ih
     exact absurd rfl ih
    | cons x q =>
     rw [hr] at ih
     exact ih
theorem topb_ne {m:Nat} (h:m≠0):oC m≠0:=vC m m (Nat.le_refl m) h
theorem icheck {a:GI} (h:IOk a):dI a=0:=by
 unfold dI
 by_cases e:a.mag=0
 · rw [decide_eq_true e,h e]; rfl
 · rw [decide_eq_false e,show ((((oC a.mag):Nat):Int) == (((0:Nat):Int)))=false from beq_eq_false_iff_ne.2 (by have:=topb_ne e; omega)]
   rfl
theorem sX {a:GQ} (h:QOk a):ce a=0:=by
 obtain ⟨h1,h2,h3⟩:=h
 have hd:IOk a.den:=by
  rcases h2 with e | ⟨e,_⟩
  · rw [e]; intro _; rfl
  · intro _; exact e
 unfold ce
 rw [icheck h1,icheck hd]
 by_cases e:a.den=z0
 · rw [decide_eq_true (show a.den=⟨false,0⟩ from e)]; rfl
 · rw [decide_eq_false (show ¬ a.den=⟨false,0⟩ from e)]
   obtain ⟨n1,n2⟩:=h2.resolve_left e
   have h3:Nat.Coprime a.num.mag a.den.mag:=by unfold jy at h3; rwa [if_neg e] at h3
   have hv:fL a.den=(a.den.mag:Int):=by unfold fL; rw [n1]; rfl
   have c1:dC a.den rational_one=1:=by
    rw [mT (b:=rational_one) hd (mq 1),hv,rD]
    unfold icmp
    rw [if_neg (by omega),if_pos (by omega)]
   have c2:aT a.num a.den=rational_one:=by
    unfold aT
    rw [show Nat.gcd a.num.mag a.den.mag=1 from h3]; rfl
   rw [c1,decide_eq_true c2]; rfl
theorem dcheck {q:Qd} (h:DOk q):dr q=0:=by
 unfold dr gg
 obtain ⟨h0,h1,h2⟩:=h
 have e:∀ i,i < 3→fw q i=.go (i+1):=fun i hi=>by
  unfold fw
  rw [decide_eq_true (by omega:((i:Nat):Int) < 3),cond_true]
  have:i=0∨i=1∨i=2:=by omega
  rcases this with rfl | rfl | rfl
  · show (bif (ce q.c0 != 0) then _ else _)=_; rw [sX h0]; rfl
  · show (bif (ce q.c1 != 0) then _ else _)=_; rw [sX h1]; rfl
  · show (bif (ce q.c2 != 0) then _ else _)=_; rw [sX h2]; rfl
 have e3:fw q 3=.out 3:=rfl
 refine (mO (s:=3) ?_).trans rfl
 rw [iI _ (e 0 (by decide)),iI _ (e 1 (by decide)),iI _ (e 2 (by decide)),jZ _ e3]
theorem isq_sq {a:GI} (h:(a7 a).2=true):∃ n:Nat,a.mag=n*n:=by
 unfold a7 at h
 cases hn:a.neg with
 | true=>rw [hn] at h; cases h
 | false =>
  rw [hn,cond_false] at h
  by_cases e:ee (bM a.mag) (bM a.mag)=a.mag
  · exact ⟨bM a.mag,e.symm⟩
  · rw [decide_eq_false e] at h; cases h
theorem root_no {r:GQ} (hr:QOk r) (hp:0≤cK r) (hs:∀ q:Rat,q*q≠cK r):(bP r).2=false:=by
 unfold bP
 cases h1:(a7 r.num).2 with
 | false=>rfl
 | true =>
  cases h2:(a7 (aa r)).2 with
  | false=>rfl
  | true =>
   exfalso
   obtain ⟨n,hn⟩:=isq_sq h1
   obtain ⟨d,hd⟩:=isq_sq h2
   obtain ⟨e1,e2⟩:=ks hr
   have hdm:(aa r).mag=jy r:=by
    have:=ie (aa r); rw [e1] at this; simpa using this.symm
   have hq:=ut hr
   have hden:(jy r:Rat)≠0:=rA hr
   refine hs ((n:Rat) / (d:Rat)) ?_
   have hd2:(jy r:Rat)=(d:Rat)*(d:Rat):=by rw [← Rat.natCast_mul,← hd,hdm]
   have hnum:(fL r.num:Rat)=(n:Rat)*(n:Rat):=by
    have h0:0≤(fL r.num:Rat):=by
     have h3:cK r*(jy r:Rat)=(fL r.num:Rat):=by unfold cK; rw [Rat.div_mul_cancel hden]
     rw [← h3]; exact iq hp (by rw [hd2]; exact mK _)
    have h4:0≤fL r.num:=by
     have:((0:Int):Rat)≤(fL r.num:Rat):=h0
     exact Rat.intCast_le_intCast.1 this
    have h5:(fL r.num)=((r.num.mag:Nat):Int):=by have:=ie r.num; omega
    rw [h5,Rat.intCast_natCast,hn,Rat.natCast_mul]
   have hd0:(d:Rat)≠0:=fun e=>hden (by rw [hd2,e]; grind)
   unfold cK
   rw [hnum,hd2]
   exact div_sq hd0
theorem u3 [K:Key] {x:GR} (hx:Tm x):dO x=0:=by
 obtain ⟨hp,hr,h⟩:=hx.ok
 unfold dO
 rw [sX hp,sX hr,jQ hr]
 rcases h with ⟨h1,h2⟩ | ⟨h1,h2⟩
 · rw [h1,h2]; rfl
 · rw [show rsgn (cK x.r)=1 by unfold rsgn; rw [if_neg (by grind),if_pos h1],root_no hr (by grind) h2]; rfl
theorem nQ [K:Key] {x:GR} (hx:Tm x):TOk x:=hx.ok.tok
theorem vcheck [K:Key] {i:Iv} (h:Wv i):bI i=0:=by
 unfold bI
 rw [u3 h.1.1,u3 h.1.2]
 have hc:bW (aJ i) (aI i)=-1:=by
  unfold bW aJ aI
  show (bif ((ah i.lo i.hi) != 0) then (ah i.lo i.hi) else bif (i.openLo == !i.openHi) then 0 else bif !i.openHi then (-1) else 1)=-1
  rw [h.1.1.cmp h.1.2]
  rcases Nat.lt_trichotomy (tk i.lo) (tk i.hi) with e | e | e
  · rw [iV e]; rfl
  · obtain ⟨o1,o2⟩:=h.2.2 e
    rw [e,fP,o1,o2]; rfl
  · have:=h.2.1; omega
 rw [hc]; rfl
theorem mI (a b:Qd):bF a b=true↔a=b:=by
 unfold bF
 simp
theorem quads_ru [K:Key]:Ru DOk bc aO:=by
 have s:∀ f g t,bc f g t=gH f g t:=fun _ _ _=>by unfold bc; rfl
 have r:∀ f t,aO f t=bh f t:=fun _ _=>by unfold aO; rfl
 refine ⟨fun t ht f hf=>?_,fun t ht f g hf hg h=>?_,fun t ht f g e hf hg he h1 h2=>?_,fun t ht f hf=>?_,fun t ht f hf=>?_,fun t ht f hf=>?_⟩
 · rw [s,kY hf hf (nQ ht)]
 · rw [s,kY hf hg (nQ ht)] at h
   rw [s,kY hg hf (nQ ht),h]
 · rw [s,kY hf hg (nQ ht)] at h1
   rw [s,kY hg he (nQ ht)] at h2
   rw [s,kY hf he (nQ ht),h1,h2]
 · rw [r]; exact (iW hf (nQ ht)).1
 · rw [s,r,kY (iW hf (nQ ht)).1 hf (nQ ht)]; exact nz hf (nQ ht)
 · rw [r,r,yg (iW hf (nQ ht)).1 hf (nQ ht)]; exact nz hf (nQ ht)
theorem tK {α:Type}:∀ (u:List (U α)) (a:At α),(kn u a).has=true→a.has=true∧(kn u a).f=a.f∨∃ x∈u,(kn u a).f=x.f
 | [],a,h=>.inl ⟨h,rfl⟩
 | x::u,a,h=>by
  rcases tK u (kS x a) h with ⟨h1,h2⟩ | ⟨y,hy,h2⟩
  · have h2:(kn (x::u) a).f=(kS x a).f:=h2
    unfold kS at h1 h2
    cases hi:aX x.iv a.frm a.til a.gap with
    | true=>rw [hi] at h2; exact .inr ⟨x,List.mem_cons_self ..,h2⟩
    | false=>rw [hi] at h1 h2; exact .inl ⟨h1,h2⟩
  · exact .inr ⟨y,List.mem_cons_of_mem _ hy,h2⟩
end Go.Sx
namespace Go.Sx
section
variable {α:Type} [Inhabited α] {eqf:α→α→Bool} {same:α→α→GR→Bool} {red:α→GR→α} {L out:List (U α)} {x:Nat} {t t':GR} {f:α}
def Vl [K:Key] (out:List (U α)):Prop:=∀ u∈out,Tv u.iv∧tk u.iv.lo≤tk u.iv.hi
omit [Inhabited α] in
theorem Vl.app [K:Key] {y:U α} (h:Vl out) (h1:Tv y.iv) (h2:tk y.iv.lo≤tk y.iv.hi):Vl (out++[y]):=fun u hu=>by
 rcases List.mem_append.1 hu with hu | hu
 · exact h u hu
 · rw [List.mem_singleton.1 hu]; exact ⟨h1,h2⟩
omit [Inhabited α] in
theorem Vl.set [K:Key] {y:U α} {i:Nat} (h:Vl out) (h1:Tv y.iv) (h2:tk y.iv.lo≤tk y.iv.hi):Vl (out.set i y):=fun u hu=>by
 rcases List.mem_or_eq_of_mem_set hu with hu | rfl
 · exact h u hu
 · exact ⟨h1,h2⟩
end
end Go.Sx
namespace Go.Sx
open Go Go.RowKit Go.Proofs
instance yC7_3:Bu Tryz.prog 92 [] [] (.agg #[]):=Bu.of bld55 rfl rfl
instance yC7_4:Ie Tryz.prog 92:=⟨fun hx=>yj uu92 rfl hx⟩
instance yC7_5 (x:Iv) (f:Qd):Bu Tryz.prog 88 [0,1] [vV x,vD f] (vUD (⟨x,f⟩:U Qd)):=Bu.of oS rfl rfl
end Go.Sx
namespace Go.Sx
open Go Go.RowKit Go.Proofs Go.Sort Go.Lib
section
variable {P:Program} {α β:Type} [Inhabited α] [Cod β]
theorem q6 (val:α→β) (d:Array α):(flatK (fun x=>Cod.enc (val x)) (Cod.n β) d).toList=flat (d.toList.map val):=by
 apply List.ext_getElem?
 intro t
 by_cases ht:t < d.size*Cod.n β
 · have hn:0 < Cod.n β:=Cod.pos
   have hi:t / Cod.n β < d.size:=Nat.div_lt_of_lt_mul (by rw [Nat.mul_comm]; exact ht)
   have hm:t % Cod.n β < Cod.n β:=Nat.mod_lt _ hn
   have e1:(d.toList.map val)[t / Cod.n β]?=some (val d[t / Cod.n β]!):=by
    rw [List.getElem?_map,Array.getElem?_toList,Array.getElem?_eq_getElem hi,Option.map_some,getElem!_pos d _ hi]
   have e2:=rV e1 hm
   rw [show t / Cod.n β*Cod.n β+t % Cod.n β=t by rw [Nat.mul_comm]; exact Nat.div_add_mod t _] at e2
   have hs:t < (flatK (fun x=>Cod.enc (val x)) (Cod.n β) d).size:=by rw [size_flatK]; exact ht
   have hl:t % Cod.n β < (Cod.enc (val d[t / Cod.n β]!)).length:=by rw [Cod.len]; exact hm
   rw [e2,Array.getElem?_toList,Array.getElem?_eq_getElem hs,← getElem!_pos _ t hs,get_flatK _ _ _ _ ht,List.getElem?_eq_getElem hl]
   exact congrArg some (getElem!_pos (Cod.enc (val d[t / Cod.n β]!)) (t % Cod.n β) hl)
 · rw [List.getElem?_eq_none (by rw [Array.length_toList,size_flatK]; omega),List.getElem?_eq_none (by rw [bV,List.length_map,Array.length_toList]; omega)]
theorem xQ (enc:α→List Value) (k:Nat) (w:World) (blk n:Nat) (d:Array α) (os:Array Obj) :
 (∀ j,j < w.heap.size→j≠blk→(sortWorldK enc k w blk 0 n d os).heap[j]?=w.heap[j]?) ∧
 (∀ cur e fr,w.heap[blk]?=some (.cells cur e fr)→(sortWorldK enc k w blk 0 n d os).heap[blk]?=some (.cells (putCells id 0 (flatK enc k d) cur) e fr)) ∧
 w.heap.size≤(sortWorldK enc k w blk 0 n d os).heap.size:=by
 have hh:(sortWorldK enc k w blk 0 n d os).heap=(w.heap.modify blk (onCells (putCells id 0 (flatK enc k d))))++os:=rfl
 have hz:(w.heap.modify blk (onCells (putCells id 0 (flatK enc k d)))).size=w.heap.size:=by simp
 refine ⟨fun j hj hne=>?_,fun cur e fr hc=>?_,?_⟩
 · rw [hh,Array.getElem?_append_left (by rw [hz]; exact hj),Array.getElem?_modify,if_neg (fun e=>hne e.symm)]
 · have hlt:blk < w.heap.size:=(Array.getElem?_eq_some_iff.1 hc).1
   rw [hh,Array.getElem?_append_left (by rw [hz]; exact hlt),Array.getElem?_modify,if_pos rfl,hc]; rfl
 · rw [hh,Array.size_append,hz]; omega
theorem put_take (F cur:Array Value) (h:F.size≤cur.size):(putCells id 0 F cur).toList.take F.size=F.toList:=by
 apply List.ext_getElem?
 intro t
 by_cases ht:t < F.size
 · rw [List.getElem?_take_of_lt ht,Array.getElem?_toList,Array.getElem?_toList]
   unfold putCells
   rw [Array.getElem?_mapIdx,Array.getElem?_eq_getElem (by omega:t < cur.size),Option.map_some,if_pos ⟨Nat.zero_le _,by omega⟩,Array.getElem?_eq_getElem ht,Nat.sub_zero]
   show some F[t]! = _
   rw [getElem!_pos F t ht]
 · rw [List.getElem?_eq_none (by rw [List.length_take]; omega),List.getElem?_eq_none (by rw [Array.length_toList]; omega)]
theorem sort_own {val:α→β} {e:TypeId} {sv:Value} {d D':Array α} {F:FuncId} {more:List Value} {w0 w:World} {B:Asn} {p:Prop} (hd0:0 < d.size) (hD:D'.size=d.size) (hp:p)
 (hbel:Below w0.heap.size w0 w) (hsep:∃ U,Sep w0.heap.size w [Asn.row (α:=β) e sv (d.toList.map val),B] U)
 (hC:∀ blk cap,sv=.slice (some ⟨blk,0,none⟩) d.size cap→HoldsK (fun x=>Cod.enc (val x)) (Cod.n β) w blk 0 d→blk < w.heap.size→w0.heap.size≤blk →
   Calls P F (sv::more).toArray w fun r w'=>r=.returned (.tuple #[])∧∃ n os,w'=sortWorldK (fun x=>Cod.enc (val x)) (Cod.n β) w blk 0 n D' os) :
 Calls P F (sv::more).toArray w (RetY w0 (fun v=>v=.tuple #[]∧p) (fun _=>[Asn.row (α:=β) e sv (D'.toList.map val),B])):=by
 obtain ⟨U,f,V,hU,hdis,hlt,⟨hown,hf⟩,hB⟩:=hsep
 have hl1:(d.toList.map val).length=d.size:=by rw [List.length_map,Array.length_toList]
 have hl2:(D'.toList.map val).length=d.size:=by rw [List.length_map,Array.length_toList,hD]
 rcases hown.2 with ⟨_,h0⟩ | ⟨blk,cap,cur,hv,_,hg,hcap,hmx,hcs,htk⟩
 · omega
 rw [hl1] at hv hcap htk
 have hfb:f blk:=(hf blk).2 (by rw [hv]; rfl)
 obtain ⟨hlo,hhi⟩:=hlt blk hfb
 have hcur:d.size*Cod.n β≤cur.size:=by rw [hcs]; exact Nat.mul_le_mul_right _ hcap
 have hH:HoldsK (fun x=>Cod.enc (val x)) (Cod.n β) w blk 0 d:=by
  intro j hj
  have hj':j < d.size*Cod.n β:=by rw [← size_flatK (fun x=>Cod.enc (val x)) (Cod.n β) d]; exact hj
  refine ⟨?_,?_⟩
  · have h1:cur[j]?=some (flatK (fun x=>Cod.enc (val x)) (Cod.n β) d)[j]!:=by
     have h2:(cur.toList.take (d.size*Cod.n β))[j]?=(flat (d.toList.map val))[j]?:=by rw [htk]
     rw [List.getElem?_take_of_lt hj',Array.getElem?_toList,← q6,Array.getElem?_toList,Array.getElem?_eq_getElem hj] at h2
     rw [h2,getElem!_pos _ j hj]
    unfold World.cell?
    rw [hg,Nat.zero_add]
    exact h1
  · unfold World.frozen?
    rw [hg]
    simp
 refine (hC blk cap hv hH hhi hlo).mono fun r w' ⟨hr,n,os,hw⟩=>?_
 subst hw
 obtain ⟨g1,g2,g3⟩:=xQ (fun x=>Cod.enc (val x)) (Cod.n β) w blk n D' os
 refine ⟨.tuple #[],hr,⟨rfl,hp⟩,⟨hbel.os,hbel.tape,hbel.output,Nat.le_trans hbel.size g3,fun k hk=>?_,Nat.le_trans hbel.drawn (Nat.le_add_right _ _)⟩,U,f,V,hU,hdis,fun k hk=>⟨(hlt k hk).1,Nat.lt_of_lt_of_le (hlt k hk).2 g3⟩,⟨⟨bV _,.inr ⟨blk,cap,_,?_,Nat.zero_le _,g2 cur e (0,0) hg,?_,hmx,?_,?_⟩⟩,hf⟩,hB.keep g3 fun k hk=>?_⟩
 · rw [g1 k (Nat.lt_of_lt_of_le hk hbel.size) (by omega)]
   exact hbel.block k hk
 · rw [hl2]; exact hv
 · rw [hl2]; exact hcap
 · unfold putCells; rw [Array.size_mapIdx]; exact hcs
 · have hF:(flatK (fun x=>Cod.enc (val x)) (Cod.n β) D').size=d.size*Cod.n β:=by rw [size_flatK,hD]
   rw [hl2,← hF,put_take _ _ (by rw [hF]; exact hcur),q6]
 · exact g1 k ((hB.range k hk).2) fun ek=>hdis blk hfb (ek ▸ hk)
theorem lays_of {val:α→β} {g:Nat} {cf:α→α→Int} {blk size:Nat} {w:World} {p:α→α→Prop}
 (ct:∀ x y w,Calls P g #[.agg (Cod.enc (val x)).toArray,.agg (Cod.enc (val y)).toArray] w (dh w (.int .i64 (cf x y)) (p x y))):CmpLays P g #[] (fun x=>Cod.enc (val x)) (Cod.n β) cf blk 0 size w:=by
 intro m os dk _ x y
 refine (ct x y (sortWorldK (fun x=>Cod.enc (val x)) (Cod.n β) w blk 0 m dk os)).mono fun r w' ⟨hr,_,hb⟩=>⟨hr,?_⟩
 generalize sortWorldK (fun x=>Cod.enc (val x)) (Cod.n β) w blk 0 m dk os=W at *
 refine ⟨w'.drawn - W.drawn,w'.heap.extract W.heap.size w'.heap.size,?_⟩
 have hheap:w'.heap=W.heap++w'.heap.extract W.heap.size w'.heap.size:=by
  apply Array.ext_getElem?
  intro k
  by_cases hk:k < W.heap.size
  · rw [Array.getElem?_append_left hk,hb.block k hk]
  · rw [Array.getElem?_append_right (by omega),Array.getElem?_extract]
    by_cases hk2:k < w'.heap.size
    · rw [if_pos (by have:=hb.size; omega),show W.heap.size+(k - W.heap.size)=k by omega]
    · rw [if_neg (by omega),Array.getElem?_eq_none (by omega)]
 have hd:w'.drawn=W.drawn+(w'.drawn - W.drawn):=by have:=hb.drawn; omega
 have hR:grow (W.drewN (w'.drawn - W.drawn)) (w'.heap.extract W.heap.size w'.heap.size)=(⟨W.heap++w'.heap.extract W.heap.size w'.heap.size,W.tape,W.drawn+(w'.drawn - W.drawn),W.os,W.output⟩:World):=rfl
 rw [hR,← hheap,← hd,← hb.os,← hb.tape,← hb.output]
end
end Go.Sx
namespace Go.Sx
open Go Go.RowKit
def agc (v:Value) (i:Nat):Value:=v.cells.getD i undef
theorem isNil:ue (.slice none 0 0):=⟨_,_,_,rfl⟩
section
variable {P:Program} {w0:World} {N:Nat} {F:List (Nat×Value)} {L:List Asn} {a:Act} {w:World} {ops:Array Oper} {Q:Exit→Act→World→Prop} {rest:List Oper}
 {d:Nat} {op:Op} {ty:TypeId} {pos:String} {aft:Array Edge}
theorem RetR.top {α:Type} [Cod α] {f:FuncId} {args:Array Value} {e:TypeId} {xs:List α} {p:Prop} {w':World} (h:Calls P f args w (RetR w' e xs p)):Calls P f args w (RetR w' e xs True) :=
 h.mono fun _ _ ⟨v,U,h1,h2,h3,h4⟩=>⟨v,U,h1,⟨h2.1,trivial⟩,h3,h4⟩
theorem r_build2 {t:TypeId} {x y:Operand} {u v:Value} (hb:BuildF P t [.slice none 0 0,.slice none 0 0] [(0,1),(1,1)]) (hx:evs F [x,y]=some [u,v]) (hu:ue u) (hv:ue v):Rd P w0 F [] (.build t #[(0,x),(1,y)]) (.agg #[u,v]):=by
 obtain ⟨_,_,_,rfl⟩:=hu
 obtain ⟨_,_,_,rfl⟩:=hv
 exact bX (parts:=[(0,x),(1,y)]) hb hx rfl rfl
end
end Go.Sx
namespace Go.Sx
open Go Go.RowKit
theorem NN.isl {v:Value} {n:Nat} (h:NN v n):ue v:=h.sl.is
section
variable {P:Program} {w0:World} {F:List (Nat×Value)}
end
end Go.Sx
namespace Go.Sx
open Go Go.RowKit
section
variable {P:Program} {w0:World} {N:Nat} {F:List (Nat×Value)} {L:List Asn} {a:Act} {w:World} {ops:Array Oper} {Q:Exit→Act→World→Prop} {rest:List Oper}
def StepBY (P:Program) (w0:World) (F:List (Nat×Value)) (L:List Asn) (op:Op) (φ:Value→Prop) (L':Value→List Asn):Prop :=
 ∀ (o:Oper) (a:Act) (w:World) (B:Asn) (K:Act→World→Prop) (Q:Exit→Act→World→Prop),o.op=op→Agr F a→Below w0.heap.size w0 w→(∃ U,Sep w0.heap.size w (L++[B]) U) →
  (∀ v w',φ v→Below w0.heap.size w0 w'→(∃ U',Sep w0.heap.size w' (L' v++[B]) U')→K (a.put o.dst v) w')→Oper.wpY P o a w K Q
theorem StepBY.step {φ:Value→Prop} {op:Op} {L':Value→List Asn} (h:StepBY P w0 F L op φ L'):aav P w0 F L op φ L':=by
 intro o a w U K Q ho ha hb hs k
 have hB:Sep w0.heap.size w [Asn.others w0.heap.size w U] (fun k=>w0.heap.size≤k∧k < w.heap.size∧¬ U k) :=
  ⟨fun k=>w0.heap.size≤k∧k < w.heap.size∧¬ U k,fun _=>False,fun k=>by simp,fun _ _=>id,fun k hk=>⟨hk.1,hk.2.1⟩,⟨fun _=>Iff.rfl,fun _ _=>rfl⟩,fun _=>id⟩
 refine h o a w _ K Q ho ha hb ⟨_,hs.append hB fun k hk hn=>hn.2.2 hk⟩ fun v w' hv hb' ⟨U',hU'⟩=>?_
 obtain ⟨V,W,hV,hW,hVW,_⟩:=hU'.split
 obtain ⟨f,X,hWf,_,hfr,⟨hf,hfe⟩,hX⟩:=hW
 have hWk:∀ k,w0.heap.size≤k→k < w.heap.size→¬ U k→W k:=fun k h1 h2 h3=>(hWf k).2 (.inl ((hf k).2 ⟨h1,h2,h3⟩))
 refine k v w' V hv ⟨hb'.os.trans hb.os.symm,hb'.tape.trans hb.tape.symm,hb'.output.trans hb.output.symm,fun n hn hU=>?_,fun k hk hu=>?_,fun k hk=>?_,fun _=>hb'.drawn⟩ hV
 · rcases Nat.lt_or_ge w0.heap.size n with hlt | hge
   · have h1:f (n - 1):=(hf _).2 ⟨by omega,by omega,fun hu=>by have:=hU _ hu; omega⟩
     have:=(hfr _ h1).2
     omega
   · exact Nat.le_trans hge hb'.size
 · rcases Nat.lt_or_ge k w0.heap.size with hlt | hge
   · rw [hb'.block k hlt,hb.block k hlt]
   · exact hfe k ((hf k).2 ⟨hge,hk,hu⟩)
 · rcases Nat.lt_or_ge k w.heap.size with hlt | hge
   · refine .inl (Classical.byContradiction fun hu=>hVW k hk (hWk k (hV.range k hk).1 hlt hu))
   · exact .inr hge
def Asn.ex (A:Value→Asn):Asn:=⟨fun w f=>∃ v,(A v).sem w f,fun h ⟨v,hv⟩=>⟨v,(A v).loc h hv⟩⟩
def nd (a:Act):Act:={ a with defers:=[] }
end
end Go.Sx
namespace Go.Sx
open Go Go.RowKit Go.Proofs
set_option maxRecDepth 100000
structure Pnt where
 x:GQ
 y:GQ
 deriving DecidableEq
structure Smp where
 t:GQ
 p:Pnt
 deriving DecidableEq
def cPt (x:Pnt):List Value:=cQ x.x++cQ x.y
def cSm (x:Smp):List Value:=cQ x.t++cPt x.p
instance yC7_6:Inhabited Pnt:=⟨⟨oQ,oQ⟩⟩
instance yC7_7:Inhabited Smp:=⟨⟨oQ,⟨oQ,oQ⟩⟩⟩
theorem onePt (x:Pnt):∀ c∈cPt x,c.oneCell'=true:=dB (wO _) (wO _)
instance yC7_8:Cod Pnt:=⟨cPt,8,fun _=>rfl,onePt,by decide⟩
instance yC7_9:Cod Smp:=⟨cSm,12,fun _=>rfl,fun x=>dB (wO _) (onePt _),by decide⟩
def SzPt (k:Nat) (x:Pnt):Prop:=SzQ k x.x∧SzQ k x.y
def SzSm (k:Nat) (x:Smp):Prop:=SzQ k x.t∧SzPt k x.p
instance yC7_10:Sz Tryz.prog 39 8:=⟨Tryz.sizeOf39⟩
instance yC7_11:Sz Tryz.prog 145 12:=⟨Tryz.sizeOf145⟩
instance yC7_12:Sz Tryz.prog 165 36:=⟨Tryz.sizeOf165⟩
instance yC7_13:Sz Tryz.prog 49 18:=⟨Tryz.sizeOf49⟩
instance yC7_14:Sz Tryz.prog 77 1:=⟨Tryz.sizeOf77⟩
instance yC7_15:Ag Tryz.prog 77 false:=⟨Tryz.isAgg77⟩
instance yC7_16:Sz Tryz.prog 35 1:=⟨Tryz.sizeOf35⟩
instance yC7_17:Ag Tryz.prog 35 false:=⟨Tryz.isAgg35⟩
instance yC7_18:Sz Tryz.prog 159 1:=⟨Tryz.sizeOf159⟩
instance yC7_19:Ag Tryz.prog 159 false:=⟨Tryz.isAgg159⟩
instance yC7_20:Ag Tryz.prog 39 true:=⟨Tryz.isAgg39⟩
instance yC7_21:Ag Tryz.prog 145 true:=⟨Tryz.isAgg145⟩
instance yC7_22:Ag Tryz.prog 165 true:=⟨Tryz.isAgg165⟩
instance yC7_23:Ag Tryz.prog 49 true:=⟨Tryz.isAgg49⟩
instance yC7_24:Un Tryz.prog 159 (.slice 145):=⟨Tryz.runUnderlying159⟩
instance yC7_25:Un Tryz.prog 35 (.slice 165):=⟨Tryz.runUnderlying35⟩
instance yC7_26:Fl Tryz.prog 39 0 29 0:=⟨⟨_,_,uu39,rfl,rfl,rfl⟩⟩
instance yC7_27:Fl Tryz.prog 39 1 29 4:=⟨⟨_,_,uu39,rfl,rfl,rfl⟩⟩
instance yC7_28:Fl Tryz.prog 145 0 29 0:=⟨⟨_,_,uu145,rfl,rfl,rfl⟩⟩
instance yC7_29:Fl Tryz.prog 145 1 39 4:=⟨⟨_,_,uu145,rfl,rfl,rfl⟩⟩
instance yC7_30:Fl Tryz.prog 165 0 74 0:=⟨⟨_,_,uu165,rfl,rfl,rfl⟩⟩
instance yC7_31:Fl Tryz.prog 165 1 163 20:=⟨⟨_,_,uu165,rfl,rfl,rfl⟩⟩
instance yC7_32:Fl Tryz.prog 49 0 46 0:=⟨⟨_,_,uu49,rfl,rfl,rfl⟩⟩
instance yC7_33:Fl Tryz.prog 49 1 46 9:=⟨⟨_,_,uu49,rfl,rfl,rfl⟩⟩
instance yC7_34:Cf Tryz.prog 16:=⟨Tryz.call16⟩
instance yC7_35:Cf Tryz.prog 89:=⟨Tryz.call89⟩
instance yC7_36:Cf Tryz.prog 98:=⟨Tryz.call98⟩
instance yC7_37:Cf Tryz.prog 110:=⟨Tryz.call110⟩
instance yC7_38:Cf Tryz.prog 25:=⟨Tryz.call25⟩
instance yC7_39:Cf Tryz.prog 213:=⟨Tryz.call213⟩
instance yC7_40:Cf Tryz.prog 407:=⟨Tryz.call407⟩
instance yC7_41:Cf Tryz.prog 206:=⟨Tryz.call206⟩
instance yC7_42:Cf Tryz.prog 108:=⟨Tryz.call108⟩
instance yC7_43:Cf Tryz.prog 17:=⟨Tryz.call17⟩
instance yC7_44:Cf Tryz.prog 19:=⟨Tryz.call19⟩
instance yC7_45:Cf Tryz.prog 100:=⟨Tryz.call100⟩
instance yC7_46:Cf Tryz.prog 18:=⟨Tryz.call18⟩
instance yC7_47:Cf Tryz.prog 64:=⟨Tryz.call64⟩
instance yC7_48:Cf Tryz.prog 91:=⟨Tryz.call91⟩
instance yC7_49:Cf Tryz.prog 141:=⟨Tryz.call141⟩
instance yC7_50:Cf Tryz.prog 115:=⟨Tryz.call115⟩
instance yC7_51:Cf Tryz.prog 29:=⟨Tryz.call29⟩
instance yC7_52:Cf Tryz.prog 114:=⟨Tryz.call114⟩
instance yC7_53:Cf Tryz.prog 99:=⟨Tryz.call99⟩
instance yC7_54:Cf Tryz.prog 20:=⟨Tryz.call20⟩
instance yC7_55:Cf Tryz.prog 205:=⟨Tryz.call205⟩
instance yC7_56:Cf Tryz.prog 215:=⟨Tryz.call215⟩
instance yC7_57:Cf Tryz.prog 216:=⟨Tryz.call216⟩
instance yC7_58:Cf Tryz.prog 125:=⟨Tryz.call125⟩
instance yC7_59:Cf Tryz.prog 126:=⟨Tryz.call126⟩
instance yC7_60:Cf Tryz.prog 128:=⟨Tryz.call128⟩
instance yC7_61:Cf Tryz.prog 129:=⟨Tryz.call129⟩
instance yC7_62:Cf Tryz.prog 212:=⟨Tryz.call212⟩
instance yC7_63:Cf Tryz.prog 279:=⟨Tryz.call279⟩
instance yC7_64:Cf Tryz.prog 214:=⟨Tryz.call214⟩
instance yC7_65:Cf Tryz.prog 109:=⟨Tryz.call109⟩
instance yC7_66:Cf Tryz.prog 111:=⟨Tryz.call111⟩
instance yC7_67:Cf Tryz.prog 112:=⟨Tryz.call112⟩
instance yC7_68:Cf Tryz.prog 113:=⟨Tryz.call113⟩
instance yC7_69:Cf Tryz.prog 207:=⟨Tryz.call207⟩
instance yC7_70:Cf Tryz.prog 104:=⟨Tryz.call104⟩
instance yC7_71:Cf Tryz.prog 105:=⟨Tryz.call105⟩
instance yC7_72:Cf Tryz.prog 103:=⟨Tryz.call103⟩
instance yC7_73:Cf Tryz.prog 107:=⟨Tryz.call107⟩
instance yC7_74:Cf Tryz.prog 176:=⟨Tryz.call176⟩
instance yC7_75:Cf Tryz.prog 65:=⟨Tryz.call65⟩
instance yC7_76:Cf Tryz.prog 93:=⟨Tryz.call93⟩
instance yC7_77:Cf Tryz.prog 116:=⟨Tryz.call116⟩
instance yC7_78:Cf Tryz.prog 117:=⟨Tryz.call117⟩
instance yC7_79:Cf Tryz.prog 118:=⟨Tryz.call118⟩
instance yC7_80:Cf Tryz.prog 119:=⟨Tryz.call119⟩
instance yC7_81:Cf Tryz.prog 121:=⟨Tryz.call121⟩
instance yC7_82:Cf Tryz.prog 278:=⟨Tryz.call278⟩
instance yC7_83:Cf Tryz.prog 229:=⟨Tryz.call229⟩
instance yC7_84:Cf Tryz.prog 230:=⟨Tryz.call230⟩
instance yC7_85:Cf Tryz.prog 231:=⟨Tryz.call231⟩
instance yC7_86:Cf Tryz.prog 232:=⟨Tryz.call232⟩
instance yC7_87:Cf Tryz.prog 313:=⟨Tryz.call313⟩
instance yC7_88:Cf Tryz.prog 314:=⟨Tryz.call314⟩
instance yC7_89:Cf Tryz.prog 280:=⟨Tryz.call280⟩
instance yC7_90:Cf Tryz.prog 88:=⟨Tryz.call88⟩
instance yC7_91:Cf Tryz.prog 211:=⟨Tryz.call211⟩
instance yC7_92:Cf Tryz.prog 173:=⟨Tryz.call173⟩
instance yC7_93:Cf Tryz.prog 168:=⟨Tryz.call168⟩
instance yC7_94:Cf Tryz.prog 177:=⟨Tryz.call177⟩
instance yC7_95:Cf Tryz.prog 67:=⟨Tryz.call67⟩
instance yC7_96:Cf Tryz.prog 227:=⟨Tryz.call227⟩
instance yC7_97:Cf Tryz.prog 315:=⟨Tryz.call315⟩
instance yC7_98:Cf Tryz.prog 336:=⟨Tryz.call336⟩
instance yC7_99:Cf Tryz.prog 337:=⟨Tryz.call337⟩
instance yC7_100:Cf Tryz.prog 338:=⟨Tryz.call338⟩
instance yC7_101:Cf Tryz.prog 339:=⟨Tryz.call339⟩
instance yC7_102:Cf Tryz.prog 340:=⟨Tryz.call340⟩
instance yC7_103:Cf Tryz.prog 341:=⟨Tryz.call341⟩
instance yC7_104:Cf Tryz.prog 342:=⟨Tryz.call342⟩
instance yC7_105:Cf Tryz.prog 368:=⟨Tryz.call368⟩
instance yC7_106:Cf Tryz.prog 359:=⟨Tryz.call359⟩
instance yC7_107:Cf Tryz.prog 362:=⟨Tryz.call362⟩
instance yC7_108:Cf Tryz.prog 363:=⟨Tryz.call363⟩
instance yC7_109:Cf Tryz.prog 377:=⟨Tryz.call377⟩
instance yC7_110:Cf Tryz.prog 374:=⟨Tryz.call374⟩
instance yC7_111:Cf Tryz.prog 384:=⟨Tryz.call384⟩
instance yC7_112:Zc Tryz.prog 39 (cPt ⟨oQ,oQ⟩):=⟨⟨_,Tryz.zeroValue39,rfl⟩⟩
instance yC7_113:Zc Tryz.prog 145 (cSm ⟨oQ,⟨oQ,oQ⟩⟩):=⟨⟨_,Tryz.zeroValue145,rfl⟩⟩
instance yC7_114:Zc Tryz.prog 77 [.slice none 0 0]:=⟨⟨_,Tryz.zeroValue77,rfl⟩⟩
instance yC7_115 (x y:GR):Bu Tryz.prog 74 [0,1] [vR x,vR y] (vV ⟨x,y,false,false⟩):=Bu.of qE rfl rfl
instance yC7_116 (x y:GR) (b:Bool):Bu Tryz.prog 74 [0,1,2] [vR x,vR y,.bool b] (vV ⟨x,y,b,false⟩):=Bu.of qE rfl rfl
instance yC7_117:Bu Tryz.prog 275 [] [] (.agg #[]):=Bu.of bld80 rfl rfl
instance yC7_118:Ie Tryz.prog 275:=⟨fun hx=>yj Tryz.runUnderlying275 rfl hx⟩
section
variable {P:Program} {w0 w:World} {N:Nat} {F:List (Nat×Value)} {L:List Asn} {a:Act} {fn:Func} {R:Ending→World→Prop}
theorem ob_sl {α:Type} [Cod α] {ol:List Oper} {H:List Hist} {ξ:Nat→Value} {G:(Nat→Value)→List (Nat×Value)} {st et bytes i:Nat} {zero:List Value} {x:Operand} {v:Value} {dst:Option Tmp} {ty:TypeId} {pos:String} {aft:Array Edge} (e0:Nat) (u:α) (hT:SlT P st et (Cod.n α) bytes zero) (hx:evs (g7 (G ξ) (fB (.buildSlice st 1 #[(0,x)]))) [x]=some [v]) (hv:[v].map (fun v=>v.cells.toList)=[u].map Cod.enc)
 (h1:dJ H [e0] i ξ=[.emp]:=by rfl) (h2:∀ v,dJ H [e0] (i+1) (upd ξ i v)=[.row et v [u]]:=by (intro v; simp only [dJ,bt] <;> rfl)):ObS P w0 ol H G ξ i ⟨dst,.buildSlice st 1 #[(0,x)],ty,pos,aft,none⟩ ⟨.nd (.one i fun v=>NN v 1),[e0]⟩ :=
 my (ψ:=fun v=>NN v 1) (B:=fun v=>[.row et v [u]]) [.emp] h1 (fun v _=>h2 v) (fun v hv=>by simpa [DF.one,bt] using hv) (jh (bT (α:=α) (xs:=[x]) [u] hT hx hv rfl (by decide)))
theorem ob_ap {α:Type} [Cod α] {ol:List Oper} {H:List Hist} {ξ:Nat→Value} {G:(Nat→Value)→List (Nat×Value)} {st et bytes i j:Nat} {zero:List Value} {x y:Operand} {sv:Value} {dst:Option Tmp} {ty:TypeId} {pos:String} {aft:Array Edge} (eo e0:Nat) {xs:List α} {u:α} (hT:SlT P st et (Cod.n α) bytes zero) (hx:ev (g7 (G ξ) (fB (.call ⟨.builtin .append,#[x,y],#[st,st]⟩))) x=some sv) (hy:ev (g7 (G ξ) (fB (.call ⟨.builtin .append,#[x,y],#[st,st]⟩))) y=some (ξ j)) (hl:xs.length+1≤34359738368)
 (h1:dJ H [eo,e0] i ξ=[.row et sv xs,.row et (ξ j) [u]]) (h2:∀ v,dJ H [eo,e0] (i+1) (upd ξ i v)=[.row et v (xs++[u]),.row et (ξ j) [u]]):ObS P w0 ol H G ξ i ⟨dst,.call ⟨.builtin .append,#[x,y],#[st,st]⟩,ty,pos,aft,none⟩ ⟨.nd (.con True),[eo,e0]⟩ :=
 my (B:=fun v=>[.row et v (xs++[u]),.row et (ξ j) [u]]) [.row et sv xs,.row et (ξ j) [u]] h1 (fun v _=>h2 v) (fun _ _=>trivial) (eA (xs:=xs) (ys:=[u]) hT (fun w hs=>(row_view hs 0 rfl)) hx hy hl)
theorem rI {ol:List Oper} {H:List Hist} {ξ:Nat→Value} {G:(Nat→Value)→List (Nat×Value)} {i j:Nat} {x:Operand} {dst:Option Tmp} {ty:TypeId} {pos:String} {aft:Array Edge} (hij:j≠i) (hx:ev (g7 (G ξ) (fB (.assign x))) x=some (ξ j)):ObS P w0 ol H G ξ i ⟨dst,.assign x,ty,pos,aft,none⟩ ⟨.nd (.two i j fun a b=>a=b),[]⟩ :=
 ob_n (φ:=.two i j fun a b=>a=b) (v:=ξ j) [] rfl rfl (by show upd ξ i (ξ j) i=upd ξ i (ξ j) j; rw [bt,mt hij]) (aA hx)
theorem rtc {t ty b n e:Nat} {cs:List Value} {v:Value} (i:Nat) (h:St w0 N F L a w) (hR:R (.returned v) w) (hrs:fn.results=[.cell t ty].toArray:=by rfl) (ha:Ag P ty true:=by infer_instance) (hz:Sz P ty n:=by infer_instance) (hx:look F t=some (ptr b 0):=by rfl) (hi:L[i]?=some (Asn.blk b cs e):=by rfl)
 (h0:Nat.blt 0 n=true:=by rfl) (hl:((cs.drop 0).take n).length=n:=by rfl) (hv:mkv true ((cs.drop 0).take n)=v:=by rfl):bodyPost P fn R .ret a w :=
 ret h hrs (.cell hx hi ha.h hz.h h0 hl hv .nil) rfl hR
theorem xw {t ty b n e u:Nat} {cs:List Value} {v x:Value} (i:Nat) (h:St w0 N F L a w) (hR:R (.returned (.tuple [v,x].toArray)) w) (hrs:fn.results=[.cell t ty,.tmp u].toArray:=by rfl) (ha:Ag P ty true:=by infer_instance) (hz:Sz P ty n:=by infer_instance) (hx:look F t=some (ptr b 0):=by rfl) (hi:L[i]?=some (Asn.blk b cs e):=by rfl)
 (hu:look F u=some x:=by rfl) (h0:Nat.blt 0 n=true:=by rfl) (hl:((cs.drop 0).take n).length=n:=by rfl) (hv:mkv true ((cs.drop 0).take n)=v:=by rfl):bodyPost P fn R .ret a w :=
 ret h hrs (.cell hx hi ha.h hz.h h0 hl hv (.tmp hu .nil)) rfl hR
end
end Go.Sx
namespace Go.Sx
theorem qO [K:Key] {α:Type} {n:List (U α)} (hW:∀ x∈n,Wv x.iv) (h:n.Pairwise fun a b=>kj a.iv < (io b.iv:Int)):n.Pairwise fun a b=>io a.iv < io b.iv :=
 h.imp_of_mem fun {a b} ha _ h=>by have:=(hW a ha).le; omega
theorem yA [K:Key] {n:List (U Qd)} (h:NF bF bc aO n) (hD:∀ x∈n,DOk x.f):aF n=(n,0):=by
 obtain ⟨s1,s2⟩:=mG (fun x hx=>(h.wv x hx).1)
 have hDj:n.Pairwise fun a b=>Dj a.iv b.iv:=h.ord.imp fun h=>.inl h
 have hWs:∀ x∈am n,Wv x.iv:=fun x hx=>h.wv x (s1.mem_iff.1 hx)
 have hs:=sG h.wv hDj s1 s2
 have e:am n=n:=pD (k:=fun w=>io w.iv) (qO hWs hs) (qO h.wv h.ord) fun x=>s1.mem_iff
 rw [mz s1.length_eq fun i h0 h1=>(so h.wv s1 s2).2 hDj i h0 (by rw [s1.length_eq]; exact h1),mA,pP,e]
 rw [nf_fix h (fun x hx t ht=>quads_ru.refl t ht _ (hD x hx)) n [] rfl rfl]
theorem tm_sz [K:Key] {x:GR} (h:Tm x):SzR 36 x:=h.szr
theorem wW (n:List (U Qd)):eK n n=true:=by
 unfold eK eqUQ
 rw [show ((((n.length:Nat):Int)) != (((n.length:Nat):Int)))=false by simp,cond_false]
 refine (mO (rn (n:=n.length) (r:=false) (bad:=fun i=>!(dW (gt n i) (gt n i))) (fun i hi=>by
  unfold qf
  rw [decide_eq_true (by omega:((i:Nat):Int) < ((n.length:Nat):Int)),cond_true]) (by
  unfold qf
  rw [decide_eq_false (by omega:¬ ((n.length:Nat):Int) < ((n.length:Nat):Int))]
  rfl) (n.length - 0+1) 0 (Nat.zero_le _) (by omega) fun i _ _=>?_)).trans rfl
 show (!(dW (gt n i) (gt n i)))=false
 unfold dW
 rw [decide_eq_true rfl,(mI _ _).2 rfl]; rfl
theorem check_nf [K:Key] {n:List (U Qd)} (hl:n.length≤256) (h:NF bF bc aO n) (hD:∀ x∈n,DOk x.f):cL n=0:=by
 unfold cL
 rw [decide_eq_false (by omega:¬ ((n.length:Nat):Int)>256),cond_false]
 have hB:∀ i,i < n.length→eS n i=bif false then .ret 0 else .go (i+1):=fun i hi=>by
  have hm:gt n i∈n:=by rw [gU hi]; exact List.getElem_mem _
  unfold eS
  rw [decide_eq_true (by omega:((i:Nat):Int) < ((n.length:Nat):Int)),cond_true,vcheck (h.wv _ hm),dcheck (hD _ hm)]
  have ha:((decide (((i:Nat):Int)>0)) && (!(cA ((gt n (i - 1)).iv) ((gt n i).iv))))=false:=by
   by_cases h0:0 < i
   · have hm':gt n (i - 1)∈n:=by rw [gU (by omega)]; exact List.getElem_mem _
     have:=List.pairwise_iff_getElem.1 h.ord (i - 1) i (by omega) hi (by omega)
     rw [← gU (by omega:i - 1 < n.length),← gU hi] at this
     rw [nM (h.wv _ hm').1 (h.wv _ hm).1,decide_eq_true this,Bool.not_true,Bool.and_false]
   · rw [decide_eq_false (by omega:¬ ((i:Nat):Int)>0)]; rfl
  rw [ha]; rfl
 refine (mO (rn (bad:=fun _=>false) hB (by
  unfold eS
  rw [decide_eq_false (by omega:¬ ((n.length:Nat):Int) < ((n.length:Nat):Int))]
  rfl) (n.length - 0+1) 0 (Nat.zero_le _) (by omega) fun _ _ _=>rfl)).trans ?_
 unfold jI
 rw [yA h hD,wW]
 rfl
end Go.Sx
