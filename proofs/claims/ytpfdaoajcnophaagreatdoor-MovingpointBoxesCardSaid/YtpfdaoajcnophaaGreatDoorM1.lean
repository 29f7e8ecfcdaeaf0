/- A part of the proof of movingpointBoxes. -/
import Derived.Test.YtpfdaoajcnophaaGreatDoorL9
set_option linter.unusedVariables false
set_option linter.unusedSimpArgs false
open Go.Proofs.Tryz renaming runUnderlying275 → uu275, sizeOf4 → zz4, underlying356 → nn356
namespace Go.Sx
open Go Go.RowKit Go.Proofs
set_option maxRecDepth 100000
set_option maxHeartbeats 40000000
attribute [local irreducible] Code.wp wpList Rd Step ObS Ent
attribute [local irreducible] ao aL ah au ax bN
theorem sG (w : World) : (method (Tryz.prog.types.size + Made.depth) 275 (.agg #[]) "Equal").run Tryz.prog w = .ok (408, .agg #[]) w := nI (P := Tryz.prog) (T := 275) Tryz.type275 (by kernel_rfl) uu275 w
instance yM1_1 : Mt Tryz.prog 275 (.agg #[]) "Equal" 408 := ⟨sG⟩
theorem rn (w : World) : (nilAhead (Tryz.prog.types.size + Made.depth) 275 (.agg #[]) "Equal").run Tryz.prog w = .ok (some false) w := kV (P := Tryz.prog) (T := 275) (f := 408) Tryz.type275 (by kernel_rfl) uu275 w
instance yM1_2 : Nl Tryz.prog 275 (.agg #[]) "Equal" := ⟨rn⟩
theorem rA (w : World) : (method (Tryz.prog.types.size + Made.depth) 275 (.agg #[]) "Reduce").run Tryz.prog w = .ok (409, .agg #[]) w := nI (P := Tryz.prog) (T := 275) Tryz.type275 (by kernel_rfl) uu275 w
instance yM1_3 : Mt Tryz.prog 275 (.agg #[]) "Reduce" 409 := ⟨rA⟩
theorem qd (w : World) : (nilAhead (Tryz.prog.types.size + Made.depth) 275 (.agg #[]) "Reduce").run Tryz.prog w = .ok (some false) w := kV (P := Tryz.prog) (T := 275) (f := 409) Tryz.type275 (by kernel_rfl) uu275 w
instance yM1_4 : Nl Tryz.prog 275 (.agg #[]) "Reduce" := ⟨qd⟩
theorem ua (w : World) : (method (Tryz.prog.types.size + Made.depth) 275 (.agg #[]) "Same").run Tryz.prog w = .ok (316, .agg #[]) w := nI (P := Tryz.prog) (T := 275) Tryz.type275 (by kernel_rfl) uu275 w
instance yM1_5 : Mt Tryz.prog 275 (.agg #[]) "Same" 316 := ⟨ua⟩
theorem sD (w : World) : (nilAhead (Tryz.prog.types.size + Made.depth) 275 (.agg #[]) "Same").run Tryz.prog w = .ok (some false) w := kV (P := Tryz.prog) (T := 275) (f := 316) Tryz.type275 (by kernel_rfl) uu275 w
instance yM1_6 : Nl Tryz.prog 275 (.agg #[]) "Same" := ⟨sD⟩
def kP (l:List (U Ln)) (x18:Nat) (out:List (U Ln)) (x43:Nat):(List (U Ln))×Int :=
 (out,0)
def dB (l:List (U Ln)) (x18:Nat) (out:List (U Ln)) (x43:Nat):Nx ((List (U Ln))×Nat) ((List (U Ln))×Int) :=
 bif (decide (((x43:Nat):Int) < (((ag (af l)).length:Nat):Int))) then
  bif (((decide (((out.length:Nat):Int)>0)) && (decide (((gt out (out.length - 1)).iv).hi=((gt (ag (af l)) x43).iv).lo))) && (!(aM ((gt out (out.length - 1)).iv)))) then
   bif (!(aM ((gt (ag (af l)) x43).iv))) then
    bif ((!((gt out (out.length - 1)).iv).openHi) && (cA ((gt out (out.length - 1)).f) ((gt (ag (af l)) x43).f))) then
     .go ((out.set (out.length - 1) (⟨(⟨((gt out (out.length - 1)).iv).lo,((gt (ag (af l)) x43).iv).hi,((gt out (out.length - 1)).iv).openLo,true⟩:Iv),(gt out (out.length - 1)).f⟩:U Ln)),(x43+1))
    else
     bif ((((decide (((x43:Nat):Int)>0)) && (aM ((gt (ag (af l)) (x43 - 1)).iv))) && (decide (((gt (ag (af l)) (x43 - 1)).iv).lo=((gt (ag (af l)) x43).iv).lo))) && (!(fG out (((gt (ag (af l)) x43).iv).lo)))) then
      .go ((out++[(⟨(⟨((gt (ag (af l)) x43).iv).lo,((gt (ag (af l)) x43).iv).hi,false,((gt (ag (af l)) x43).iv).openHi⟩:Iv),(gt (ag (af l)) x43).f⟩:U Ln)]),(x43+1))
     else
      .go ((out++[(gt (ag (af l)) x43)]),(x43+1))
   else
    bif (bt ((gt out (out.length - 1)).f) ((gt (ag (af l)) x43).f) (((gt (ag (af l)) x43).iv).lo)) then
     .go ((out.set (out.length - 1) (⟨(⟨((gt out (out.length - 1)).iv).lo,((gt out (out.length - 1)).iv).hi,((gt out (out.length - 1)).iv).openLo,false⟩:Iv),(gt out (out.length - 1)).f⟩:U Ln)),(x43+1))
    else
     bif (((decide (((x43+1:Nat):Int) < (((ag (af l)).length:Nat):Int))) && (decide (((gt (ag (af l)) (x43+1)).iv).lo=((gt (ag (af l)) x43).iv).lo))) && (bt ((gt (ag (af l)) (x43+1)).f) ((gt (ag (af l)) x43).f) (((gt (ag (af l)) x43).iv).lo))) then
      .go (out,(x43+1))
     else
      .go ((out++[(⟨(gt (ag (af l)) x43).iv,(aC ((gt (ag (af l)) x43).f) (((gt (ag (af l)) x43).iv).lo))⟩:U Ln)]),(x43+1))
  else
   bif (!(aM ((gt (ag (af l)) x43).iv))) then
    bif ((((decide (((x43:Nat):Int)>0)) && (aM ((gt (ag (af l)) (x43 - 1)).iv))) && (decide (((gt (ag (af l)) (x43 - 1)).iv).lo=((gt (ag (af l)) x43).iv).lo))) && (!(fG out (((gt (ag (af l)) x43).iv).lo)))) then
     .go ((out++[(⟨(⟨((gt (ag (af l)) x43).iv).lo,((gt (ag (af l)) x43).iv).hi,false,((gt (ag (af l)) x43).iv).openHi⟩:Iv),(gt (ag (af l)) x43).f⟩:U Ln)]),(x43+1))
    else
     .go ((out++[(gt (ag (af l)) x43)]),(x43+1))
   else
    bif (((decide (((x43+1:Nat):Int) < (((ag (af l)).length:Nat):Int))) && (decide (((gt (ag (af l)) (x43+1)).iv).lo=((gt (ag (af l)) x43).iv).lo))) && (bt ((gt (ag (af l)) (x43+1)).f) ((gt (ag (af l)) x43).f) (((gt (ag (af l)) x43).iv).lo))) then
     .go (out,(x43+1))
    else
     .go ((out++[(⟨(gt (ag (af l)) x43).iv,(aC ((gt (ag (af l)) x43).f) (((gt (ag (af l)) x43).iv).lo))⟩:U Ln)]),(x43+1))
 else
  .out (out,x43)
def fJ (l:List (U Ln)) (x18:Nat):(List (U Ln))×Int :=
 fin (d7 (fun s=>dB l x18 s.1 s.2) (((ag (af l)).length - 0)+1) ([],0)) (fun s=>kP l x18 s.1 s.2) (fun r=>r)
def fe (l:List (U Ln)) (x18:Nat):Nx Nat ((List (U Ln))×Int) :=
 bif (decide (((x18:Nat):Int) < (((af l).length:Nat):Int))) then
  bif ((decide (((x18:Nat):Int)>0)) && (!(dP ((gt (af l) (x18 - 1)).iv) ((gt (af l) x18).iv)))) then
   .ret ([],11)
  else
   .go (x18+1)
 else
  .out x18
def aU (l:List (U Ln)):(List (U Ln))×Int :=
 fin (d7 (fun s=>fe l s) ((l.length - 0)+1) 0) (fun s=>fJ l s) (fun r=>r)
theorem fI (l:List (U Ln)) (lv:Value) (hl:l.length < 20) (zl:All (jD 30) l) (w0:World) (hlv:View w0 lv l):Calls Tryz.prog 212 #[(.iface 275 (.agg #[])),lv] w0 (RetT w0 292 (aU l).1 [.int .i64 ((aU l).2)] (All (jD 20) ((aU l).1)∧(aU l).1.length≤3*l.length)):=by
 refine enter (N:=219) (args:=[(.iface 275 (.agg #[])),lv]) Tryz.func212 rfl rfl ?_; intro ac h
 have hlenl:=hlv.len
 refine gz h <| (W) ?_; clear h ac; intro ac wo h
 have s1:=RetR.pr ((fun w_ hB_ hS_=>iY l lv og zl w_ (hlv.below hB_)) _ h.bel h.sep)
 have p2:=s1.2
 refine jo (xs:=(af l)) h (dH Tryz.call284 rfl) (fun w_ hB_ hS_=>iY l lv og zl w_ (hlv.below hB_)) rfl ?_; clear h ac wo; intro sv3 ac wo _ h
 obtain ⟨X1,hX1⟩:∃ X,d7 (fun s=>fe l s) ((l.length - 0)+1) 0=X:=⟨_,rfl⟩
 refine gz h <| (W) ?_; clear h ac wo; intro ac wo h
 refine wp_loop_ghost (fun n_ a_ w_=>∃ (x18:Nat),((l.length - x18) < n_)∧(d7 (fun s=>fe l s) n_ x18=X1)∧(x18≤l.length)∧St w0 219 [(0,(.iface 275 (.agg #[]))),(1,sv3),(17,(.int .i64 (((af l).length:Nat):Int))),(18,(.int .i64 ((x18:Nat):Int)))] [.row (α:=U Ln) 292 sv3 (af l)] a_ w_) ((l.length - 0)+1) ⟨0,og,hX1,og,h.rs⟩ ?_
 clear h ac wo; rintro n1 ac wo ⟨x18,hm1,hL1,hx18,h⟩
 obtain ⟨m1,rfl⟩:∃ m,n1=m+1:=⟨n1 - 1,by omega⟩
 refine gz h <| (ai) ?_ ?_ <;> clear h ac wo <;> intro ac wo h hc1
 ·
  have hd1:=of_decide_eq_true hc1
  refine gz h <| (dr0 (hob:=(oG (by exact fun hg=>pj ((gt (af l) (x18 - 1)).iv) ((gt (af l) x18).iv) 10 og (All.gt s1.1 (cC _)).1 (All.gt s1.1 (cC _)).1)) <| oE)) <| (ai) ?_ ?_ <;> clear h ac wo <;> intro ac wo h hc2
  ·
   have hq2:=hc2; try simp at hq2
   refine gz h <| (W) ?_; clear h ac wo; intro ac wo h
   replace h:=h.nilRow (α:=U Ln) 292
   have hr1:=vk hL1 pt
   have hd:aU l=([],11):=pt
   exact (rt h) (by rw [hd]; exact h.retT 0 rfl rfl ⟨All.nil,og⟩)
  ·
   have hq2:=hc2; try simp at hq2
   refine gz h <| (W) ?_; clear h ac wo; intro ac wo h
   have hg:=fE hL1 pt
   exact aO ⟨m1,og,_,og,hg,og,h.re [0]⟩
 ·
  have hd1:=of_decide_eq_false hc1
  have hx1:=iT hL1 pt
  refine gz h <| (W) ?_; clear h ac wo; intro ac wo h
  have s5:=RetR.pr ((fun w_ hB_ hS_=>jf (af l) sv3 og s1.1 w_ (row_view hS_ 0 rfl)) _ h.bel h.sep)
  have p6:=s5.2
  refine jo (xs:=(ag (af l))) h (dH Tryz.call285 rfl) (fun w_ hB_ hS_=>jf (af l) sv3 og s1.1 w_ (row_view hS_ 0 rfl)) rfl ?_; clear h ac wo; intro sv7 ac wo _ h
  refine gz h <| (W) ?_; clear h ac wo; intro ac wo h
  replace h:=h.nilRow (α:=U Ln) 292
  obtain ⟨X2,hX2⟩:∃ X,d7 (fun s=>dB l x18 s.1 s.2) (((ag (af l)).length - 0)+1) ([],0)=X:=⟨_,rfl⟩
  refine wp_loop_ghost (fun n_ a_ w_=>∃ (out:List (U Ln)) (x43:Nat) (outv:Value),(((ag (af l)).length - x43) < n_)∧(d7 (fun s=>dB l x18 s.1 s.2) n_ (out,x43)=X2)∧(x43≤(ag (af l)).length)∧(All (jD 20) out)∧(out.length≤x43)∧St w0 219 [(0,(.iface 275 (.agg #[]))),(7,outv),(8,sv7),(41,sv7),(42,(.int .i64 (((ag (af l)).length:Nat):Int))),(43,(.int .i64 ((x43:Nat):Int)))] [.row (α:=U Ln) 292 outv out,.row (α:=U Ln) 292 sv7 (ag (af l)),.row (α:=U Ln) 292 sv3 (af l)] a_ w_) (((ag (af l)).length - 0)+1) ⟨[],0,(.slice none 0 0),og,hX2,og,All.nil,og,h.rs⟩ ?_
  clear h ac wo; rintro n2 ac wo ⟨out,x43,outv,hm2,hL2,hx43,zout,hol,h⟩
  obtain ⟨m2,rfl⟩:∃ m,n2=m+1:=⟨n2 - 1,by omega⟩
  refine gz h <| (ai) ?_ ?_ <;> clear h ac wo <;> intro ac wo h hc3
  ·
   have hd3:=of_decide_eq_true hc3
   refine gz h <| (xa) fun b1=>(xa) fun b2=>(dr0 (hob:=(oG (by exact fun hg=>eM ((gt out (out.length - 1)).iv))) <| oE)) <| (ai) ?_ ?_ <;> clear h ac wo <;> intro ac wo h hc4
   ·
    have hq4:=hc4; try simp at hq4
    refine gz h <| (xk (eM ((gt (ag (af l)) x43).iv))) <| (ai) ?_ ?_ <;> clear h ac wo <;> intro ac wo h hc5
    ·
     have hq5:=hc5; try simp at hq5
     refine gz h <| (dr0 (hob:=(oG (by exact fun hg=>kQ ((gt out (out.length - 1)).f) ((gt (ag (af l)) x43).f) (All.gt zout (cC _)).2 (jB (All.gt s5.1 (cC _)).2 og))) <| oE)) <| (ai) ?_ ?_ <;> clear h ac wo <;> intro ac wo h hc6
     ·
      have hq6:=hc6; try simp at hq6
      refine gz h <| (W) ?_; clear h ac wo; intro ac wo h
      refine up h 2 rfl (ik (k:=9) (u':=(⟨(⟨((gt out (out.length - 1)).iv).lo,((gt (ag (af l)) x43).iv).hi,((gt out (out.length - 1)).iv).openLo,((gt out (out.length - 1)).iv).openHi⟩:Iv),(gt out (out.length - 1)).f⟩:U Ln)) Tryz.sizeOf46 (nO og) rfl rfl rfl rfl rfl rfl rfl rfl) ?_; clear h ac wo; intro ac wo h
      refine gz h <| (W) ?_; clear h ac wo; intro ac wo h
      refine up h 2 rfl (ik (k:=19) (u':=(⟨(⟨((gt out (out.length - 1)).iv).lo,((gt (ag (af l)) x43).iv).hi,((gt out (out.length - 1)).iv).openLo,true⟩:Iv),(gt out (out.length - 1)).f⟩:U Ln)) zz4 (qF og) rfl rfl rfl rfl rfl rfl rfl rfl) ?_; clear h ac wo; intro ac wo h
      replace h:=h.rowEq 2 rfl (by rw [List.set_set]:_=(out.set (out.length - 1) (⟨(⟨((gt out (out.length - 1)).iv).lo,((gt (ag (af l)) x43).iv).hi,((gt out (out.length - 1)).iv).openLo,true⟩:Iv),(gt out (out.length - 1)).f⟩:U Ln)))
      refine gz h <| (W) ?_; clear h ac wo; intro ac wo h
      have hg:=fE hL2 pt
      exact aO ⟨m2,og,_,_,_,og,hg,og,(All.set zout ⟨⟨((All.gt zout (cC _)).1).1,(fh ((All.gt s5.1 (cC _)).1).2 og)⟩,(All.gt zout (cC _)).2⟩),og,h.re [2,3,4]⟩
     ·
      have hq6:=hc6; try simp at hq6
      refine gz h <| (dr0 (hob:=(oG (by exact fun hg=>eM ((gt (ag (af l)) (x43 - 1)).iv))) <| (oX (h:=by exact fun _=>og1 (acc:=[2]) rfl rfl rfl rfl (fun hg=>gk (dH Tryz.call286 (lH (f7 rfl hg) (lH (f7 rfl hg) rfl))) (fun w_ hB_ hS_=>jt out outv (((gt (ag (af l)) x43).iv).lo) zout ((All.gt s5.1 (cC _)).1).1 w_ (row_view hS_ 0 rfl))))) <| oE)) <| (ai) ?_ ?_ <;> clear h ac wo <;> intro ac wo h hc7
      ·
       have hq7:=hc7; try simp at hq7
       refine gz h <| (xs 1 (cUN (⟨(⟨((gt (ag (af l)) x43).iv).lo,((gt (ag (af l)) x43).iv).hi,false,((gt (ag (af l)) x43).iv).openHi⟩:Iv),(gt (ag (af l)) x43).f⟩:U Ln))) <| (W) ?_; clear h ac wo; intro ac wo h
       refine nw h (dG (α:=U Ln) (xs:=[.tmp 160]) (vs:=[(vUN (⟨(⟨((gt (ag (af l)) x43).iv).lo,((gt (ag (af l)) x43).iv).hi,false,((gt (ag (af l)) x43).iv).openHi⟩:Iv),(gt (ag (af l)) x43).f⟩:U Ln))]) [(⟨(⟨((gt (ag (af l)) x43).iv).lo,((gt (ag (af l)) x43).iv).hi,false,((gt (ag (af l)) x43).iv).openHi⟩:Iv),(gt (ag (af l)) x43).f⟩:U Ln)] iz rfl rfl rfl (by decide)) rfl ?_; clear h ac wo; intro sv9 ac wo nnsv9 h
       refine on2 h 3 0 rfl rfl (gQ (xs:=out) (ys:=[(⟨(⟨((gt (ag (af l)) x43).iv).lo,((gt (ag (af l)) x43).iv).hi,false,((gt (ag (af l)) x43).iv).openHi⟩:Iv),(gt (ag (af l)) x43).f⟩:U Ln)]) iz (fun w hs=>(row_view hs 0 rfl)) rfl rfl og) rfl ?_; clear h ac wo; intro sv10 ac wo apsv10 h
       refine gz h <| (W) ?_; clear h ac wo; intro ac wo h
       have hg:=fE hL2 pt
       exact aO ⟨m2,og,_,_,_,og,hg,og,(All.app zout (All.cons ⟨⟨(fh ((All.gt s5.1 (cC _)).1).1 og),(fh ((All.gt s5.1 (cC _)).1).2 og)⟩,(jB (All.gt s5.1 (cC _)).2 og)⟩ All.nil)),og,h.re [0,4,5]⟩
      ·
       have hq7:=hc7; try simp at hq7
       refine gz h <| (W) ?_; clear h ac wo; intro ac wo h
       refine nw h (dG (α:=U Ln) (xs:=[.tmp 160]) (vs:=[(vUN (gt (ag (af l)) x43))]) [(gt (ag (af l)) x43)] iz rfl rfl rfl (by decide)) rfl ?_; clear h ac wo; intro sv11 ac wo nnsv11 h
       refine on2 h 3 0 rfl rfl (gQ (xs:=out) (ys:=[(gt (ag (af l)) x43)]) iz (fun w hs=>(row_view hs 0 rfl)) rfl rfl og) rfl ?_; clear h ac wo; intro sv12 ac wo apsv12 h
       refine gz h <| (W) ?_; clear h ac wo; intro ac wo h
       have hg:=fE hL2 pt
       exact aO ⟨m2,og,_,_,_,og,hg,og,(All.app zout (All.cons (rZ (All.gt s5.1 (cC _)) og) All.nil)),og,h.re [0,4,5]⟩
    ·
     have hq5:=hc5; try simp at hq5
     refine gz h <| (dr0 (hob:=(oG (by exact fun hg=>fR ((gt out (out.length - 1)).f) ((gt (ag (af l)) x43).f) (((gt (ag (af l)) x43).iv).lo) (All.gt zout (cC _)).2 (jB (All.gt s5.1 (cC _)).2 og) ((All.gt s5.1 (cC _)).1).1)) <| oE)) <| (ai) ?_ ?_ <;> clear h ac wo <;> intro ac wo h hc8
     ·
      have hq8:=hc8; try simp at hq8
      refine gz h <| (W) ?_; clear h ac wo; intro ac wo h
      refine up h 2 rfl (ik (k:=19) (u':=(⟨(⟨((gt out (out.length - 1)).iv).lo,((gt out (out.length - 1)).iv).hi,((gt out (out.length - 1)).iv).openLo,false⟩:Iv),(gt out (out.length - 1)).f⟩:U Ln)) zz4 (nO og) rfl rfl rfl rfl rfl rfl rfl rfl) ?_; clear h ac wo; intro ac wo h
      refine gz h <| (W) ?_; clear h ac wo; intro ac wo h
      have hg:=fE hL2 pt
      exact aO ⟨m2,og,_,_,_,og,hg,og,(All.set zout ⟨⟨((All.gt zout (cC _)).1).1,((All.gt zout (cC _)).1).2⟩,(All.gt zout (cC _)).2⟩),og,h.re [2,3,4]⟩
     ·
      have hq8:=hc8; try simp at hq8
      refine gz h <| (dr0 (hob:=(oG (by exact fun hg=>fR ((gt (ag (af l)) (x43+1)).f) ((gt (ag (af l)) x43).f) (((gt (ag (af l)) x43).iv).lo) (jB (All.gt s5.1 (cC _)).2 og) (jB (All.gt s5.1 (cC _)).2 og) ((All.gt s5.1 (cC _)).1).1)) <| oE)) <| (ai) ?_ ?_ <;> clear h ac wo <;> intro ac wo h hc9
      ·
       have hq9:=hc9; try simp at hq9
       refine gz h <| (W) ?_; clear h ac wo; intro ac wo h
       have hg:=fE hL2 pt
       exact aO ⟨m2,og,_,_,_,og,hg,og,zout,og,h.re [2,3,4]⟩
      ·
       have hq9:=hc9; try simp at hq9
       have c13:=iC ((gt (ag (af l)) x43).f) (((gt (ag (af l)) x43).iv).lo) (All.gt s5.1 (cC _)).2 ((All.gt s5.1 (cC _)).1).1
       have s13:=Calls.pr (c13 w0)
       refine gz h <| (xk (c13)) <| (xs 1 (cUN (⟨(gt (ag (af l)) x43).iv,(aC ((gt (ag (af l)) x43).f) (((gt (ag (af l)) x43).iv).lo))⟩:U Ln))) <| (W) ?_; clear h ac wo; intro ac wo h
       refine nw h (dG (α:=U Ln) (xs:=[.tmp 87]) (vs:=[(vUN (⟨(gt (ag (af l)) x43).iv,(aC ((gt (ag (af l)) x43).f) (((gt (ag (af l)) x43).iv).lo))⟩:U Ln))]) [(⟨(gt (ag (af l)) x43).iv,(aC ((gt (ag (af l)) x43).f) (((gt (ag (af l)) x43).iv).lo))⟩:U Ln)] iz rfl rfl rfl (by decide)) rfl ?_; clear h ac wo; intro sv14 ac wo nnsv14 h
       refine on2 h 3 0 rfl rfl (gQ (xs:=out) (ys:=[(⟨(gt (ag (af l)) x43).iv,(aC ((gt (ag (af l)) x43).f) (((gt (ag (af l)) x43).iv).lo))⟩:U Ln)]) iz (fun w hs=>(row_view hs 0 rfl)) rfl rfl og) rfl ?_; clear h ac wo; intro sv15 ac wo apsv15 h
       refine gz h <| (W) ?_; clear h ac wo; intro ac wo h
       have hg:=fE hL2 pt
       exact aO ⟨m2,og,_,_,_,og,hg,og,(All.app zout (All.cons ⟨(abf (All.gt s5.1 (cC _)).1 og),s13⟩ All.nil)),og,h.re [0,4,5]⟩
   ·
    have hq4:=hc4; try simp at hq4
    refine gz h <| (xk (eM ((gt (ag (af l)) x43).iv))) <| (ai) ?_ ?_ <;> clear h ac wo <;> intro ac wo h hc10
    ·
     have hq10:=hc10; try simp at hq10
     refine gz h <| (W) ?_; clear h ac wo; intro ac wo h
     refine eZ mixed [dv _,dv _,dv _,⟨.det (gv false undef),[]⟩,⟨.det (gv false undef),[]⟩,⟨.det (gv false undef),[]⟩,⟨.det (gv false undef),[]⟩,⟨.det (gv false undef),[]⟩,⟨.det (gv false undef),[]⟩,dv _,dv _,⟨.det (gv false undef),[]⟩,⟨.det (gv false undef),[]⟩,⟨.det (gv false undef),[]⟩,⟨.det (gv false undef),[]⟩,⟨.det (gv false undef),[]⟩,⟨.det (gv false undef),[]⟩,⟨.det (gv false undef),[]⟩,⟨.det (gv false undef),[]⟩,⟨.det (gv false undef),[]⟩,⟨.det (gv false undef),[]⟩,⟨.det (gv false undef),[]⟩,dv _] [⟨_,[]⟩,⟨_,[]⟩,⟨_,[]⟩,⟨_,[]⟩,⟨_,[]⟩] h rfl (by kernel_rfl) ⟨fun _ _=>om rfl,fun _ _=>aQ (rg nn356 rfl (p:=none)),fun _ _=>om rfl,(fun ξ hφ=>by exact ko (c:=true) (b:=false) (g:=false) [] rfl rfl rfl rfl g_t (fun hg=>absurd hg (by decide))),(fun ξ hφ=>by exact ko (c:=true) (b:=false) (g:=false) [] rfl rfl rfl rfl g_t (fun hg=>absurd hg (by decide))),(fun ξ hφ=>by exact ko (c:=true) (b:=false) (g:=false) [] rfl rfl rfl rfl g_t (fun hg=>absurd hg (by decide))),(fun ξ hφ=>by exact ko (c:=true) (b:=false) (g:=false) [] rfl rfl rfl rfl g_t (fun hg=>absurd hg (by decide))),(fun ξ hφ=>by exact ko (c:=true) (b:=false) (g:=false) [] rfl rfl rfl rfl g_t (fun hg=>absurd hg (by decide))),(fun ξ hφ=>by exact ko (c:=true) (b:=false) (g:=false) [] rfl rfl rfl rfl g_t (fun hg=>absurd hg (by decide))),fun _ _=>aQ (j3 (b:=false) rfl (fun e=>absurd e (by decide)) (fun _=>rfl) (v:=.bool false)),fun _ _=>om rfl,(fun ξ hφ=>by exact ko (c:=true) (b:=false) (g:=false) [] rfl rfl rfl rfl g_t (fun hg=>absurd hg (by decide))),(fun ξ hφ=>by exact ko (c:=true) (b:=false) (g:=false) [] rfl rfl rfl rfl g_t (fun hg=>absurd hg (by decide))),(fun ξ hφ=>by exact ko (c:=true) (b:=false) (g:=false) [] rfl rfl rfl rfl g_t (fun hg=>absurd hg (by decide))),(fun ξ hφ=>by exact ko (c:=true) (b:=false) (g:=false) [] rfl rfl rfl rfl g_t (fun hg=>absurd hg (by decide))),(fun ξ hφ=>by exact ko (c:=true) (b:=false) (g:=false) [] rfl rfl rfl rfl g_t (fun hg=>absurd hg (by decide))),(fun ξ hφ=>by exact ko (c:=true) (b:=false) (g:=false) [] rfl rfl rfl rfl g_t (fun hg=>absurd hg (by decide))),(fun ξ hφ=>by exact ko (c:=true) (b:=false) (g:=false) [] rfl rfl rfl rfl g_t (fun hg=>absurd hg (by decide))),(fun ξ hφ=>by exact ko (c:=true) (b:=false) (g:=false) [] rfl rfl rfl rfl g_t (fun hg=>absurd hg (by decide))),(fun ξ hφ=>by exact ko (c:=true) (b:=false) (g:=false) [] rfl rfl rfl rfl g_t (fun hg=>absurd hg (by decide))),(fun ξ hφ=>by exact ko (c:=true) (b:=false) (g:=false) [] rfl rfl rfl rfl g_t (fun hg=>absurd hg (by decide))),(fun ξ hφ=>by exact ko (c:=true) (b:=false) (g:=false) [] rfl rfl rfl rfl g_t (fun hg=>absurd hg (by decide))),fun _ _=>aQ (j3 (b:=false) rfl (fun e=>absurd e (by decide)) (fun _=>rfl) (v:=.bool false)),trivial⟩ ?_
     clear h ac wo; intro ξ ac wo hφ h
     replace h:St w0 219 [(0,(.iface 275 (.agg #[]))),(7,outv),(8,sv7),(41,sv7),(42,(.int .i64 (((ag (af l)).length:Nat):Int))),(43,(.int .i64 ((x43:Nat):Int))),(10,(ptr b1 0)),(9,(.int .i64 ((x43:Nat):Int))),(11,(ptr b2 0)),(12,(.pointer none)),(117,(.bool false))] [.blk b2 (cR (((gt (ag (af l)) x43).iv).lo)) 46,.blk b1 (cUN (gt (ag (af l)) x43)) 292,.row (α:=U Ln) 292 outv out,.row (α:=U Ln) 292 sv7 (ag (af l)),.row (α:=U Ln) 292 sv3 (af l)] ac wo:=(h.pick [0,1,2,3,4] (by decide)).sub ⟨rfl,rfl,rfl,rfl,rfl,rfl,rfl,rfl,rfl,rfl,rfl,trivial⟩
     clear hφ ξ
     refine gz h <| (W) ?_; clear h ac wo; intro ac wo h
     refine aau h rfl ?_
     refine gz h <| (dr0 (hob:=(oG (by exact fun hg=>eM ((gt (ag (af l)) (x43 - 1)).iv))) <| (oX (h:=by exact fun _=>og1 (acc:=[2]) rfl rfl rfl rfl (fun hg=>gk (dH Tryz.call286 (lH (f7 rfl hg) (lH (f7 rfl hg) rfl))) (fun w_ hB_ hS_=>jt out outv (((gt (ag (af l)) x43).iv).lo) zout ((All.gt s5.1 (cC _)).1).1 w_ (row_view hS_ 0 rfl))))) <| oE)) <| (ai) ?_ ?_ <;> clear h ac wo <;> intro ac wo h hc11
     ·
      have hq11:=hc11; try simp at hq11
      refine gz h <| (xs 1 (cUN (⟨(⟨((gt (ag (af l)) x43).iv).lo,((gt (ag (af l)) x43).iv).hi,false,((gt (ag (af l)) x43).iv).openHi⟩:Iv),(gt (ag (af l)) x43).f⟩:U Ln))) <| (W) ?_; clear h ac wo; intro ac wo h
      refine nw h (dG (α:=U Ln) (xs:=[.tmp 160]) (vs:=[(vUN (⟨(⟨((gt (ag (af l)) x43).iv).lo,((gt (ag (af l)) x43).iv).hi,false,((gt (ag (af l)) x43).iv).openHi⟩:Iv),(gt (ag (af l)) x43).f⟩:U Ln))]) [(⟨(⟨((gt (ag (af l)) x43).iv).lo,((gt (ag (af l)) x43).iv).hi,false,((gt (ag (af l)) x43).iv).openHi⟩:Iv),(gt (ag (af l)) x43).f⟩:U Ln)] iz rfl rfl rfl (by decide)) rfl ?_; clear h ac wo; intro sv16 ac wo nnsv16 h
      refine on2 h 3 0 rfl rfl (gQ (xs:=out) (ys:=[(⟨(⟨((gt (ag (af l)) x43).iv).lo,((gt (ag (af l)) x43).iv).hi,false,((gt (ag (af l)) x43).iv).openHi⟩:Iv),(gt (ag (af l)) x43).f⟩:U Ln)]) iz (fun w hs=>(row_view hs 0 rfl)) rfl rfl og) rfl ?_; clear h ac wo; intro sv17 ac wo apsv17 h
      refine gz h <| (W) ?_; clear h ac wo; intro ac wo h
      have hg:=fE hL2 pt
      exact aO ⟨m2,og,_,_,_,og,hg,og,(All.app zout (All.cons ⟨⟨(fh ((All.gt s5.1 (cC _)).1).1 og),(fh ((All.gt s5.1 (cC _)).1).2 og)⟩,(jB (All.gt s5.1 (cC _)).2 og)⟩ All.nil)),og,h.re [0,4,5]⟩
     ·
      have hq11:=hc11; try simp at hq11
      refine gz h <| (W) ?_; clear h ac wo; intro ac wo h
      refine nw h (dG (α:=U Ln) (xs:=[.tmp 160]) (vs:=[(vUN (gt (ag (af l)) x43))]) [(gt (ag (af l)) x43)] iz rfl rfl rfl (by decide)) rfl ?_; clear h ac wo; intro sv18 ac wo nnsv18 h
      refine on2 h 3 0 rfl rfl (gQ (xs:=out) (ys:=[(gt (ag (af l)) x43)]) iz (fun w hs=>(row_view hs 0 rfl)) rfl rfl og) rfl ?_; clear h ac wo; intro sv19 ac wo apsv19 h
      refine gz h <| (W) ?_; clear h ac wo; intro ac wo h
      have hg:=fE hL2 pt
      exact aO ⟨m2,og,_,_,_,og,hg,og,(All.app zout (All.cons (rZ (All.gt s5.1 (cC _)) og) All.nil)),og,h.re [0,4,5]⟩
    ·
     have hq10:=hc10; try simp at hq10
     refine gz h <| (W) ?_; clear h ac wo; intro ac wo h
     refine eZ mixed [dv _,dv _,dv _,⟨.det (gv false undef),[]⟩,⟨.det (gv false undef),[]⟩,⟨.det (gv false undef),[]⟩,⟨.det (gv false undef),[]⟩,⟨.det (gv false undef),[]⟩,⟨.det (gv false undef),[]⟩,⟨.det (gv false undef),[]⟩,⟨.det (gv false undef),[]⟩,⟨.det (gv false undef),[]⟩,⟨.det (gv false undef),[]⟩,⟨.det (gv false undef),[]⟩,⟨.det (gv false undef),[]⟩,dv _,dv _] [⟨_,[]⟩,⟨_,[]⟩,⟨_,[]⟩,⟨_,[]⟩,⟨_,[]⟩] h rfl (by kernel_rfl) ⟨fun _ _=>om rfl,fun _ _=>aQ (rg nn356 rfl (p:=none)),fun _ _=>om rfl,(fun ξ hφ=>by exact ko (c:=true) (b:=false) (g:=false) [] rfl rfl rfl rfl g_t (fun hg=>absurd hg (by decide))),(fun ξ hφ=>by exact ko (c:=true) (b:=false) (g:=false) [] rfl rfl rfl rfl g_t (fun hg=>absurd hg (by decide))),(fun ξ hφ=>by exact ko (c:=true) (b:=false) (g:=false) [] rfl rfl rfl rfl g_t (fun hg=>absurd hg (by decide))),(fun ξ hφ=>by exact ko (c:=true) (b:=false) (g:=false) [] rfl rfl rfl rfl g_t (fun hg=>absurd hg (by decide))),(fun ξ hφ=>by exact ko (c:=true) (b:=false) (g:=false) [] rfl rfl rfl rfl g_t (fun hg=>absurd hg (by decide))),(fun ξ hφ=>by exact ko (c:=true) (b:=false) (g:=false) [] rfl rfl rfl rfl g_t (fun hg=>absurd hg (by decide))),(fun ξ hφ=>by exact ko (c:=true) (b:=false) (g:=false) [] rfl rfl rfl rfl g_t (fun hg=>absurd hg (by decide))),(fun ξ hφ=>by exact ko (c:=true) (b:=false) (g:=false) [] rfl rfl rfl rfl g_t (fun hg=>absurd hg (by decide))),(fun ξ hφ=>by exact ko (c:=true) (b:=false) (g:=false) [] rfl rfl rfl rfl g_t (fun hg=>absurd hg (by decide))),(fun ξ hφ=>by exact ko (c:=true) (b:=false) (g:=false) [] rfl rfl rfl rfl g_t (fun hg=>absurd hg (by decide))),(fun ξ hφ=>by exact ko (c:=true) (b:=false) (g:=false) [] rfl rfl rfl rfl g_t (fun hg=>absurd hg (by decide))),(fun ξ hφ=>by exact ko (c:=true) (b:=false) (g:=false) [] rfl rfl rfl rfl g_t (fun hg=>absurd hg (by decide))),fun _ _=>aQ (j3 (b:=false) rfl (fun e=>absurd e (by decide)) (fun _=>rfl) (v:=.bool false)),fun _ _=>aQ (aF rfl),trivial⟩ ?_
     clear h ac wo; intro ξ ac wo hφ h
     replace h:St w0 219 [(0,(.iface 275 (.agg #[]))),(7,outv),(8,sv7),(41,sv7),(42,(.int .i64 (((ag (af l)).length:Nat):Int))),(43,(.int .i64 ((x43:Nat):Int))),(10,(ptr b1 0)),(9,(.int .i64 ((x43:Nat):Int))),(11,(ptr b2 0)),(12,(.pointer none)),(163,(.bool false))] [.blk b2 (cR (((gt (ag (af l)) x43).iv).lo)) 46,.blk b1 (cUN (gt (ag (af l)) x43)) 292,.row (α:=U Ln) 292 outv out,.row (α:=U Ln) 292 sv7 (ag (af l)),.row (α:=U Ln) 292 sv3 (af l)] ac wo:=(h.pick [0,1,2,3,4] (by decide)).sub ⟨rfl,rfl,rfl,rfl,rfl,rfl,rfl,rfl,rfl,rfl,rfl,trivial⟩
     clear hφ ξ
     refine gz h <| (W) ?_; clear h ac wo; intro ac wo h
     refine aau h rfl ?_
     refine gz h <| (dr0 (hob:=(oG (by exact fun hg=>fR ((gt (ag (af l)) (x43+1)).f) ((gt (ag (af l)) x43).f) (((gt (ag (af l)) x43).iv).lo) (jB (All.gt s5.1 (cC _)).2 og) (jB (All.gt s5.1 (cC _)).2 og) ((All.gt s5.1 (cC _)).1).1)) <| oE)) <| (ai) ?_ ?_ <;> clear h ac wo <;> intro ac wo h hc12
     ·
      have hq12:=hc12; try simp at hq12
      refine gz h <| (W) ?_; clear h ac wo; intro ac wo h
      have hg:=fE hL2 pt
      exact aO ⟨m2,og,_,_,_,og,hg,og,zout,og,h.re [2,3,4]⟩
     ·
      have hq12:=hc12; try simp at hq12
      have c20:=iC ((gt (ag (af l)) x43).f) (((gt (ag (af l)) x43).iv).lo) (All.gt s5.1 (cC _)).2 ((All.gt s5.1 (cC _)).1).1
      have s20:=Calls.pr (c20 w0)
      refine gz h <| (xk (c20)) <| (xs 1 (cUN (⟨(gt (ag (af l)) x43).iv,(aC ((gt (ag (af l)) x43).f) (((gt (ag (af l)) x43).iv).lo))⟩:U Ln))) <| (W) ?_; clear h ac wo; intro ac wo h
      refine nw h (dG (α:=U Ln) (xs:=[.tmp 87]) (vs:=[(vUN (⟨(gt (ag (af l)) x43).iv,(aC ((gt (ag (af l)) x43).f) (((gt (ag (af l)) x43).iv).lo))⟩:U Ln))]) [(⟨(gt (ag (af l)) x43).iv,(aC ((gt (ag (af l)) x43).f) (((gt (ag (af l)) x43).iv).lo))⟩:U Ln)] iz rfl rfl rfl (by decide)) rfl ?_; clear h ac wo; intro sv21 ac wo nnsv21 h
      refine on2 h 3 0 rfl rfl (gQ (xs:=out) (ys:=[(⟨(gt (ag (af l)) x43).iv,(aC ((gt (ag (af l)) x43).f) (((gt (ag (af l)) x43).iv).lo))⟩:U Ln)]) iz (fun w hs=>(row_view hs 0 rfl)) rfl rfl og) rfl ?_; clear h ac wo; intro sv22 ac wo apsv22 h
      refine gz h <| (W) ?_; clear h ac wo; intro ac wo h
      have hg:=fE hL2 pt
      exact aO ⟨m2,og,_,_,_,og,hg,og,(All.app zout (All.cons ⟨(abf (All.gt s5.1 (cC _)).1 og),s20⟩ All.nil)),og,h.re [0,4,5]⟩
  ·
   have hd3:=of_decide_eq_false hc3
   have hx2:=iT hL2 pt
   have hd:aU l=(out,0):=pt
   refine gz h <| (W) ?_; clear h ac wo; intro ac wo h
   exact (rt h) (by rw [hd]; exact h.retT 0 rfl rfl ⟨zout,og⟩)
attribute [irreducible] aU
end Go.Sx
