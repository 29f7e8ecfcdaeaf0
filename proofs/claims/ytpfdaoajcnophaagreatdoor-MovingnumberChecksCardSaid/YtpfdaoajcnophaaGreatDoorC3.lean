/- A part of the proof of movingnumberChecks. -/
import Derived.Test.YtpfdaoajcnophaaGreatDoorC2
import Derived.Test.YtpfdaoajcnophaaGreatDoorB9
set_option linter.unusedVariables false
set_option linter.unusedSimpArgs false
open Go.Proofs.Tryz renaming runUnderlying92 → uu92, isAgg46 → aa46, sizeOf46 → zz46, isAgg4 → aa4, underlying4 → nn4
namespace Go.Sx
open Go Go.RowKit Go.Proofs
set_option maxRecDepth 100000
set_option maxHeartbeats 40000000
attribute [local irreducible] Code.wp wpList Rd Step ObS Ent
attribute [local irreducible] ah ak aq an bN
theorem oM (w : World) : (method (Tryz.prog.types.size + Made.depth) 92 (.agg #[]) "Equal").run Tryz.prog w = .ok (403, .agg #[]) w := oL (P := Tryz.prog) (T := 92) Tryz.type92 (by kernel_rfl) uu92 w
instance yC3_1 : Mt Tryz.prog 92 (.agg #[]) "Equal" 403 := ⟨oM⟩
theorem np (w : World) : (nilAhead (Tryz.prog.types.size + Made.depth) 92 (.agg #[]) "Equal").run Tryz.prog w = .ok (some false) w := lU (P := Tryz.prog) (T := 92) (f := 403) Tryz.type92 (by kernel_rfl) uu92 w
instance yC3_2 : Nl Tryz.prog 92 (.agg #[]) "Equal" := ⟨np⟩
theorem nu (w : World) : (method (Tryz.prog.types.size + Made.depth) 92 (.agg #[]) "Reduce").run Tryz.prog w = .ok (404, .agg #[]) w := oL (P := Tryz.prog) (T := 92) Tryz.type92 (by kernel_rfl) uu92 w
instance yC3_3 : Mt Tryz.prog 92 (.agg #[]) "Reduce" 404 := ⟨nu⟩
theorem mB (w : World) : (nilAhead (Tryz.prog.types.size + Made.depth) 92 (.agg #[]) "Reduce").run Tryz.prog w = .ok (some false) w := lU (P := Tryz.prog) (T := 92) (f := 404) Tryz.type92 (by kernel_rfl) uu92 w
instance yC3_4 : Nl Tryz.prog 92 (.agg #[]) "Reduce" := ⟨mB⟩
theorem pW (w : World) : (method (Tryz.prog.types.size + Made.depth) 92 (.agg #[]) "Same").run Tryz.prog w = .ok (405, .agg #[]) w := oL (P := Tryz.prog) (T := 92) Tryz.type92 (by kernel_rfl) uu92 w
instance yC3_5 : Mt Tryz.prog 92 (.agg #[]) "Same" 405 := ⟨pW⟩
theorem oJ (w : World) : (nilAhead (Tryz.prog.types.size + Made.depth) 92 (.agg #[]) "Same").run Tryz.prog w = .ok (some false) w := lU (P := Tryz.prog) (T := 92) (f := 405) Tryz.type92 (by kernel_rfl) uu92 w
instance yC3_6 : Nl Tryz.prog 92 (.agg #[]) "Same" := ⟨oJ⟩
def ib (l:List (U Qd)) (x18:Nat) (out:List (U Qd)) (x43:Nat):(List (U Qd))×Int :=
 (out,0)
def dF (l:List (U Qd)) (x18:Nat) (out:List (U Qd)) (x43:Nat):Nx ((List (U Qd))×Nat) ((List (U Qd))×Int) :=
 bif (decide (((x43:Nat):Int) < (((ae (am l)).length:Nat):Int))) then
  bif (((decide (((out.length:Nat):Int)>0)) && (decide (((gt out (out.length - 1)).iv).hi=((gt (ae (am l)) x43).iv).lo))) && (!(aN ((gt out (out.length - 1)).iv)))) then
   bif (!(aN ((gt (ae (am l)) x43).iv))) then
    bif ((!((gt out (out.length - 1)).iv).openHi) && (bF ((gt out (out.length - 1)).f) ((gt (ae (am l)) x43).f))) then
     .go ((out.set (out.length - 1) (⟨(⟨((gt out (out.length - 1)).iv).lo,((gt (ae (am l)) x43).iv).hi,((gt out (out.length - 1)).iv).openLo,true⟩:Iv),(gt out (out.length - 1)).f⟩:U Qd)),(x43+1))
    else
     bif ((((decide (((x43:Nat):Int)>0)) && (aN ((gt (ae (am l)) (x43 - 1)).iv))) && (decide (((gt (ae (am l)) (x43 - 1)).iv).lo=((gt (ae (am l)) x43).iv).lo))) && (!(eX out (((gt (ae (am l)) x43).iv).lo)))) then
      .go ((out++[(⟨(⟨((gt (ae (am l)) x43).iv).lo,((gt (ae (am l)) x43).iv).hi,false,((gt (ae (am l)) x43).iv).openHi⟩:Iv),(gt (ae (am l)) x43).f⟩:U Qd)]),(x43+1))
     else
      .go ((out++[(gt (ae (am l)) x43)]),(x43+1))
   else
    bif (bc ((gt out (out.length - 1)).f) ((gt (ae (am l)) x43).f) (((gt (ae (am l)) x43).iv).lo)) then
     .go ((out.set (out.length - 1) (⟨(⟨((gt out (out.length - 1)).iv).lo,((gt out (out.length - 1)).iv).hi,((gt out (out.length - 1)).iv).openLo,false⟩:Iv),(gt out (out.length - 1)).f⟩:U Qd)),(x43+1))
    else
     bif (((decide (((x43+1:Nat):Int) < (((ae (am l)).length:Nat):Int))) && (decide (((gt (ae (am l)) (x43+1)).iv).lo=((gt (ae (am l)) x43).iv).lo))) && (bc ((gt (ae (am l)) (x43+1)).f) ((gt (ae (am l)) x43).f) (((gt (ae (am l)) x43).iv).lo))) then
      .go (out,(x43+1))
     else
      .go ((out++[(⟨(gt (ae (am l)) x43).iv,(aO ((gt (ae (am l)) x43).f) (((gt (ae (am l)) x43).iv).lo))⟩:U Qd)]),(x43+1))
  else
   bif (!(aN ((gt (ae (am l)) x43).iv))) then
    bif ((((decide (((x43:Nat):Int)>0)) && (aN ((gt (ae (am l)) (x43 - 1)).iv))) && (decide (((gt (ae (am l)) (x43 - 1)).iv).lo=((gt (ae (am l)) x43).iv).lo))) && (!(eX out (((gt (ae (am l)) x43).iv).lo)))) then
     .go ((out++[(⟨(⟨((gt (ae (am l)) x43).iv).lo,((gt (ae (am l)) x43).iv).hi,false,((gt (ae (am l)) x43).iv).openHi⟩:Iv),(gt (ae (am l)) x43).f⟩:U Qd)]),(x43+1))
    else
     .go ((out++[(gt (ae (am l)) x43)]),(x43+1))
   else
    bif (((decide (((x43+1:Nat):Int) < (((ae (am l)).length:Nat):Int))) && (decide (((gt (ae (am l)) (x43+1)).iv).lo=((gt (ae (am l)) x43).iv).lo))) && (bc ((gt (ae (am l)) (x43+1)).f) ((gt (ae (am l)) x43).f) (((gt (ae (am l)) x43).iv).lo))) then
     .go (out,(x43+1))
    else
     .go ((out++[(⟨(gt (ae (am l)) x43).iv,(aO ((gt (ae (am l)) x43).f) (((gt (ae (am l)) x43).iv).lo))⟩:U Qd)]),(x43+1))
 else
  .out (out,x43)
def eI (l:List (U Qd)) (x18:Nat):(List (U Qd))×Int :=
 fin (bZ (fun s=>dF l x18 s.1 s.2) (((ae (am l)).length - 0)+1) ([],0)) (fun s=>ib l x18 s.1 s.2) (fun r=>r)
def eJ (l:List (U Qd)) (x18:Nat):Nx Nat ((List (U Qd))×Int) :=
 bif (decide (((x18:Nat):Int) < (((am l).length:Nat):Int))) then
  bif ((decide (((x18:Nat):Int)>0)) && (!(cA ((gt (am l) (x18 - 1)).iv) ((gt (am l) x18).iv)))) then
   .ret ([],11)
  else
   .go (x18+1)
 else
  .out x18
def aF (l:List (U Qd)):(List (U Qd))×Int :=
 fin (bZ (fun s=>eJ l s) ((l.length - 0)+1) 0) (fun s=>eI l s) (fun r=>r)
attribute [irreducible] aF
end Go.Sx
namespace Go.Sx
open Go Go.RowKit Go.Proofs
set_option maxRecDepth 100000
set_option maxHeartbeats 40000000
attribute [local irreducible] Code.wp wpList Rd Step ObS Ent
attribute [local irreducible] ah ak aq an bN
theorem eqi86:EqIn Tryz.prog 5 74 vV:=eqS (c:=cV) (fun _=>rfl) Tryz.underlying74 Tryz.stoodInHeld74 fun d x y w hd=>by
 refine Eq.trans (eqF (by decide) (bY aa46 zz46 (v:=vR (x.lo)) rfl w) (bY aa46 zz46 (v:=vR (y.lo)) rfl w) (zw d _ _ w og) (eqF (by decide) (bY aa46 zz46 (v:=vR (x.hi)) rfl w) (bY aa46 zz46 (v:=vR (y.hi)) rfl w) (zw d _ _ w og) (eqF (by decide) (e6 aa4 rfl w) (e6 aa4 rfl w) (eqB nn4 d og _ _ w) (eqF (by decide) (e6 aa4 rfl w) (e6 aa4 rfl w) (eqB nn4 d og _ _ w) wY)))) ?_
 congr 1
 rw [decide_eq_decide]
 cases x; cases y; simp
theorem eqp86:EqP Tryz.prog 74 vV:=EqIn.p (k:=5) rfl (c:=fun x=>(cV x).toArray) (fun _=>rfl) Tryz.eqGuardType74 eqi86
instance yC3_7:Ep Tryz.prog 74 Iv inferInstance vV:=⟨eqp86⟩
instance yC3_8 : Mt Tryz.prog 92 (.agg #[]) "Equal" 403 := ⟨oM⟩
instance yC3_9 : Nl Tryz.prog 92 (.agg #[]) "Equal" := ⟨np⟩
def iQ (l:List (U Qd)) (more:List GR) (out:List GR) (i:Nat):(List GR) :=
 out
def dS (l:List (U Qd)) (more:List GR) (out:List GR) (i:Nat):Nx ((List GR)×Nat) (List GR) :=
 bif (decide (((i:Nat):Int) < ((l.length:Nat):Int))) then
  .go ((cj (cj out (((gt l i).iv).lo)) (((gt l i).iv).hi)),(i+1))
 else
  .out (out,i)
def fR (l:List (U Qd)) (more:List GR):(List GR) :=
 fin (bZ (fun s=>dS l more s.1 s.2) ((l.length - 0)+1) (more,0)) (fun s=>iQ l more s.1 s.2) (fun r=>r)
attribute [irreducible] fR
def kg (l:List (U Qd)) (ts:List GR) (out:List (At Qd)) (i:Nat) (i2:Nat) (out2:List (At Qd)):(List (At Qd)) :=
 out2
def fX (l:List (U Qd)) (ts:List GR) (out:List (At Qd)) (i:Nat) (i2:Nat) (out2:List (At Qd)) (k3:Nat) (out3:List (At Qd)):Nx (Nat×(List (At Qd))) (List (At Qd)) :=
 .go ((i2+1),out3)
def dM (l:List (U Qd)) (ts:List GR) (out:List (At Qd)) (i:Nat) (i2:Nat) (out2:List (At Qd)) (k3:Nat) (out3:List (At Qd)):Nx (Nat×(List (At Qd))) (List (At Qd)) :=
 bif (decide (((k3:Nat):Int) < ((l.length:Nat):Int))) then
  bif (aX ((gt l k3).iv) ((gt out3 i2).frm) ((gt out3 i2).til) ((gt out3 i2).gap)) then
   .go ((k3+1),(out3.set i2 (⟨(gt out3 i2).frm,(gt out3 i2).til,(gt out3 i2).gap,true,(gt l k3).f⟩:At Qd)))
  else
   .go ((k3+1),out3)
 else
  .out (k3,out3)
def dN (l:List (U Qd)) (ts:List GR) (out:List (At Qd)) (i:Nat) (i2:Nat) (out2:List (At Qd)):Nx (Nat×(List (At Qd))) (List (At Qd)) :=
 bif (decide (((i2:Nat):Int) < ((out2.length:Nat):Int))) then
  fin (bZ (fun s=>dM l ts out i i2 out2 s.1 s.2) ((l.length - 0)+1) (0,out2)) (fun s=>fX l ts out i i2 out2 s.1 s.2) (fun r=>.ret r)
 else
  .out (i2,out2)
def fY (l:List (U Qd)) (ts:List GR) (out:List (At Qd)) (i:Nat):(List (At Qd)) :=
 fin (bZ (fun s=>dN l ts out i s.1 s.2) ((out.length - 0)+1) (0,out)) (fun s=>kg l ts out i s.1 s.2) (fun r=>r)
def cP (l:List (U Qd)) (ts:List GR) (out:List (At Qd)) (i:Nat):Nx ((List (At Qd))×Nat) (List (At Qd)) :=
 bif (decide (((i:Nat):Int) < ((ts.length:Nat):Int))) then
  bif (decide (((i+1:Nat):Int) < ((ts.length:Nat):Int))) then
   .go (((out++[(⟨(gt ts i),(gt ts i),false,false,(⟨(⟨(⟨false,0⟩:GI),(⟨false,0⟩:GI)⟩:GQ),(⟨(⟨false,0⟩:GI),(⟨false,0⟩:GI)⟩:GQ),(⟨(⟨false,0⟩:GI),(⟨false,0⟩:GI)⟩:GQ)⟩:Qd)⟩:At Qd)])++[(⟨(gt ts i),(gt ts (i+1)),true,false,(⟨(⟨(⟨false,0⟩:GI),(⟨false,0⟩:GI)⟩:GQ),(⟨(⟨false,0⟩:GI),(⟨false,0⟩:GI)⟩:GQ),(⟨(⟨false,0⟩:GI),(⟨false,0⟩:GI)⟩:GQ)⟩:Qd)⟩:At Qd)]),(i+1))
  else
   .go ((out++[(⟨(gt ts i),(gt ts i),false,false,(⟨(⟨(⟨false,0⟩:GI),(⟨false,0⟩:GI)⟩:GQ),(⟨(⟨false,0⟩:GI),(⟨false,0⟩:GI)⟩:GQ),(⟨(⟨false,0⟩:GI),(⟨false,0⟩:GI)⟩:GQ)⟩:Qd)⟩:At Qd)]),(i+1))
 else
  .out (out,i)
def fN (l:List (U Qd)) (ts:List GR):(List (At Qd)) :=
 fin (bZ (fun s=>cP l ts s.1 s.2) ((ts.length - 0)+1) ([],0)) (fun s=>fY l ts s.1 s.2) (fun r=>r)
attribute [irreducible] fN
end Go.Sx
namespace Go.Sx
open Go Go.RowKit Go.Proofs
set_option maxRecDepth 100000
set_option maxHeartbeats 40000000
attribute [local irreducible] Code.wp wpList Rd Step ObS Ent
attribute [local irreducible] ah ak aq an bN
instance yC3_10 : Mt Tryz.prog 92 (.agg #[]) "Reduce" 404 := ⟨nu⟩
instance yC3_11 : Nl Tryz.prog 92 (.agg #[]) "Reduce" := ⟨mB⟩
instance yC3_12 : Mt Tryz.prog 92 (.agg #[]) "Same" 405 := ⟨pW⟩
instance yC3_13 : Nl Tryz.prog 92 (.agg #[]) "Same" := ⟨oJ⟩
def kf (l:List (At Qd)) (out:List (U Qd)) (i:Nat):(List (U Qd)) :=
 out
def dL (l:List (At Qd)) (out:List (U Qd)) (i:Nat):Nx ((List (U Qd))×Nat) (List (U Qd)) :=
 bif (decide (((i:Nat):Int) < ((l.length:Nat):Int))) then
  bif (gt l i).gap then
   bif (!(gt l i).has) then
    .go (out,(i+1))
   else
    bif (((((decide (((i:Nat):Int)≥2)) && (gt l (i - 2)).has) && (gt l (i - 1)).has) && (bc ((gt l (i - 2)).f) ((gt l (i - 1)).f) ((gt l i).frm))) && (bF ((gt l (i - 2)).f) ((gt l i).f))) then
     .go ((out.set (out.length - 1) (⟨(⟨((gt out (out.length - 1)).iv).lo,(gt l i).til,((gt out (out.length - 1)).iv).openLo,true⟩:Iv),(gt out (out.length - 1)).f⟩:U Qd)),(i+1))
    else
     .go ((out++[(⟨(⟨(gt l i).frm,(gt l i).til,(!(((gt l (i - 1)).has && (bc ((gt l i).f) ((gt l (i - 1)).f) ((gt l i).frm))) && (!(((decide (((i:Nat):Int)≥2)) && (gt l (i - 2)).has) && (bc ((gt l (i - 2)).f) ((gt l (i - 1)).f) ((gt l i).frm)))))),true⟩:Iv),(gt l i).f⟩:U Qd)]),(i+1))
  else
   bif (!(gt l i).has) then
    .go (out,(i+1))
   else
    bif (((decide (((i:Nat):Int)>0)) && (gt l (i - 1)).has) && (bc ((gt l (i - 1)).f) ((gt l i).f) ((gt l i).frm))) then
     .go ((out.set (out.length - 1) (⟨(⟨((gt out (out.length - 1)).iv).lo,((gt out (out.length - 1)).iv).hi,((gt out (out.length - 1)).iv).openLo,false⟩:Iv),(gt out (out.length - 1)).f⟩:U Qd)),(i+1))
    else
     bif (((decide (((i+1:Nat):Int) < ((l.length:Nat):Int))) && (gt l (i+1)).has) && (bc ((gt l (i+1)).f) ((gt l i).f) ((gt l i).frm))) then
      .go (out,(i+1))
     else
      .go ((out++[(⟨(⟨(gt l i).frm,(gt l i).til,false,false⟩:Iv),(aO ((gt l i).f) ((gt l i).frm))⟩:U Qd)]),(i+1))
 else
  .out (out,i)
def fM (l:List (At Qd)):(List (U Qd)) :=
 fin (bZ (fun s=>dL l s.1 s.2) ((l.length - 0)+1) ([],0)) (fun s=>kf l s.1 s.2) (fun r=>r)
attribute [irreducible] fM
def dY (l:List (U Qd)):(List (U Qd)) :=
 (fM (fN l (fR l ([]))))
attribute [irreducible] dY
end Go.Sx
namespace Go.Sx
theorem sH (l:List (U Qd)):am l=tx dg l 0 l.length:=by
 unfold am cO aS ej
 show aY l 0 l.length=_
 unfold aY
 rfl
theorem uO (a b:U Qd):dg a b=cU a b:=by
 unfold dg aP cU ci
 rfl
theorem mG [K:Key] {d:List (U Qd)} (hd:∀ u∈d,Tv u.iv):(am d).Perm d∧(am d).Pairwise fun a b=>kU a.iv≤kU b.iv:=by
 rw [sH]
 exact wC uO hd
theorem tN (l:List (U Qd)):fR l []=o7 (l.map (·.iv)):=by
 unfold fR
 have:=tG (R:=List GR) (f:=fun (o:List GR) (u:U Qd)=>cj (cj o u.iv.lo) u.iv.hi) l (B:=fun s=>dS l [] s.1 s.2)
  (fun o i hi=>by
    show dS l [] o i=_
    unfold dS
    rw [decide_eq_true (by omega:((i:Nat):Int) < ((l.length:Nat):Int))]
    rfl)
  (fun o=>by
    show dS l [] o l.length=_
    unfold dS
    rw [decide_eq_false (by omega:¬ ((l.length:Nat):Int) < ((l.length:Nat):Int))]
    rfl) l [] [] (l.length - 0+1) rfl (by omega)
 refine (mO this).trans ?_
 unfold iQ o7
 rw [List.foldl_map]
theorem rg (l:List (U Qd)) (ts:List GR):fN l ts=je (default:Qd) l ts:=by
 unfold fN je
 have h1:=qr (R:=List (At Qd)) (z:=(default:Qd)) (ts:=ts) (B:=fun s=>cP l ts s.1 s.2)
  (fun o i hi=>by
    show cP l ts o i=_
    unfold cP
    rw [decide_eq_true (by omega:((i:Nat):Int) < ((ts.length:Nat):Int)),decide_eq_true (by omega:((i+1:Nat):Int) < ((ts.length:Nat):Int))]
    rfl)
  (fun o i hi=>by
    show cP l ts o i=_
    unfold cP
    rw [decide_eq_true (by omega:((i:Nat):Int) < ((ts.length:Nat):Int)),decide_eq_false (by omega:¬ ((i+1:Nat):Int) < ((ts.length:Nat):Int))]
    rfl)
  (fun o=>by
    show cP l ts o ts.length=_
    unfold cP
    rw [decide_eq_false (by omega:¬ ((ts.length:Nat):Int) < ((ts.length:Nat):Int))]
    rfl) ts [] [] (ts.length - 0+1) rfl (by omega)
 refine (mO h1).trans ?_
 show fY l ts ([]++gV (default:Qd) ts) ts.length=_
 rw [List.nil_append]
 generalize gV (default:Qd) ts=o0
 unfold fY
 have h2:=vA (R:=List (At Qd)) (g:=kn l) (n:=o0.length) (B:=fun s=>dN l ts o0 ts.length s.1 s.2)
  (fun o i hi hn=>by
    show dN l ts o0 ts.length i o=_
    unfold dN
    rw [decide_eq_true (by omega:((i:Nat):Int) < ((o.length:Nat):Int)),cond_true]
    have h3:=oo (R:=List (At Qd)) (f:=fun o u=>o.set i (kS u (gt o i))) l (I:=fun o=>i < o.length) (B:=fun s=>dM l ts o0 ts.length i o s.1 s.2)
     (fun o x h=>by simpa using h)
     (fun o k ho hk=>by
       show dM l ts o0 ts.length i _ k o=_
       unfold dM kS
       rw [decide_eq_true (by omega:((k:Nat):Int) < ((l.length:Nat):Int)),cond_true]
       cases aX (gt l k).iv (gt o i).frm (gt o i).til (gt o i).gap
       · rw [cond_false,cond_false,set_gt ho]
       · rfl)
     (fun o'=>by
       show dM l ts o0 ts.length i _ l.length o'=_
       unfold dM
       rw [decide_eq_false (by omega:¬ ((l.length:Nat):Int) < ((l.length:Nat):Int))]
       rfl) l [] o (l.length - 0+1) hi rfl (by omega)
    refine (mO h3).trans ?_
    show fX l ts o0 ts.length i _ l.length _=_
    unfold fX
    rw [vM i l o hi])
  (fun o hn=>by
    show dN l ts o0 ts.length o0.length o=_
    unfold dN
    rw [hn,decide_eq_false (by omega:¬ ((o0.length:Nat):Int) < ((o0.length:Nat):Int))]
    rfl) o0 [] (o0.length - 0+1) (by simp) (by omega)
 refine (mO h2).trans ?_
 rfl
theorem pP (l:List (U Qd)):ae l=l.flatMap atU:=by
 unfold ae
 have h:=oo (R:=List (U Qd)) (f:=fun o u=>o++atU u) l (I:=fun _=>True) (B:=fun s=>dR l s.1 s.2)
  (fun _ _ h=>h)
  (fun o i _ hi=>by
    show dR l i o=_
    unfold dR atU ptU xx
    rw [decide_eq_true (by omega:((i:Nat):Int) < ((l.length:Nat):Int)),cond_true]
    cases (gt l i).iv.openLo <;> cases aN (gt l i).iv <;> cases (gt l i).iv.openHi <;> simp)
  (fun o=>by
    show dR l l.length o=_
    unfold dR
    rw [decide_eq_false (by omega:¬ ((l.length:Nat):Int) < ((l.length:Nat):Int))]
    rfl) l [] [] (l.length - 0+1) trivial rfl (by omega)
 refine (mO h).trans ?_
 show ir l l.length _=_
 unfold ir
 rw [tF,List.nil_append]
theorem pV {l:List (U Qd)} (hl:(am l).length=l.length) (h:∃ i,0 < i∧i < l.length∧cA (gt (am l) (i - 1)).iv (gt (am l) i).iv=false):aF l=([],11):=by
 obtain ⟨i,h0,h1,h2⟩:=h
 unfold aF
 refine (fin_r (u7 (n:=l.length) (bad:=fun x=>decide (((x:Nat):Int)>0) && !(cA (gt (am l) (x - 1)).iv (gt (am l) x).iv)) (fun x hx=>by
  unfold eJ
  rw [hl,decide_eq_true (by omega:((x:Nat):Int) < ((l.length:Nat):Int)),cond_true]) (l.length - 0+1) 0 (by omega) ⟨i,Nat.zero_le _,h1,?_⟩)).trans rfl
 rw [decide_eq_true (by omega:((i:Nat):Int)>0),h2]
 rfl
theorem mz {l:List (U Qd)} (hl:(am l).length=l.length) (h:∀ i,0 < i→i < l.length→cA (gt (am l) (i - 1)).iv (gt (am l) i).iv=true):aF l=eI l l.length:=by
 unfold aF
 refine (mO (rn (n:=l.length) (r:=(([],11):List (U Qd)×Int)) (bad:=fun x=>decide (((x:Nat):Int)>0) && !(cA (gt (am l) (x - 1)).iv (gt (am l) x).iv)) (fun x hx=>by
  unfold eJ
  rw [hl,decide_eq_true (by omega:((x:Nat):Int) < ((l.length:Nat):Int)),cond_true]) (by
  unfold eJ
  rw [hl,decide_eq_false (by omega:¬ ((l.length:Nat):Int) < ((l.length:Nat):Int))]
  rfl) (l.length - 0+1) 0 (Nat.zero_le _) (by omega) fun i _ h2=>?_)).trans rfl
 by_cases e:0 < i
 · show (decide (((i:Nat):Int)>0) && !(cA (gt (am l) (i - 1)).iv (gt (am l) i).iv))=false
   rw [h i e h2,Bool.not_true,Bool.and_false]
 · show (decide (((i:Nat):Int)>0) && _)=false
   rw [decide_eq_false (by omega:¬ ((i:Nat):Int)>0),Bool.false_and]
theorem qw (l:List (U Qd)) (x18:Nat) (out:List (U Qd)) (x:Nat) (hx:x < (ae (am l)).length) :
 dF l x18 out x=.go (gy bF bc aO (ae (am l)) out x,x+1):=by
 unfold dF gy ns nr wd o6 eX
 rw [decide_eq_true (by omega:((x:Nat):Int) < (((ae (am l)).length:Nat):Int)),cond_true]
 generalize ae (am l)=L
 repeat' (first | refine uJ ?_ ?_ | rfl)
theorem qn (l:List (At Qd)) (out:List (U Qd)) (i:Nat) (hi:i < l.length) :
 dL l out i=.go (fA bF bc aO l out i,i+1):=by
 unfold dL fA
 rw [decide_eq_true (by omega:((i:Nat):Int) < ((l.length:Nat):Int)),cond_true]
 cases (gt l i).has <;> cases (gt l i).gap <;> simp only [Bool.not_true,Bool.not_false,cond_true,cond_false]
 · repeat' (first | refine uJ ?_ ?_ | rfl)
 · repeat' (first | refine uJ ?_ ?_ | rfl)
theorem mA (l:List (U Qd)) (n:Nat):eI l n=(ig (gy bF bc aO (ae (am l))) [] (ae (am l)).length,0):=by
 unfold eI
 refine (mO (qa (o:=([]:List (U Qd))) (st:=gy bF bc aO (ae (am l))) (n:=(ae (am l)).length) (B:=fun s=>dF l n s.1 s.2)
  (fun o i hi=>qw l n o i hi) (fun o=>by
    show dF l n o _=_
    unfold dF
    rw [decide_eq_false (by omega:¬ (((ae (am l)).length:Nat):Int) < (((ae (am l)).length:Nat):Int))]
    rfl) _ 0 (Nat.zero_le _) (by omega))).trans ?_
 rfl
theorem nK (l:List (At Qd)):fM l=ig (fA bF bc aO l) [] l.length:=by
 unfold fM
 refine (mO (qa (o:=([]:List (U Qd))) (st:=fA bF bc aO l) (n:=l.length) (B:=fun s=>dL l s.1 s.2)
  (fun o i hi=>qn l o i hi) (fun o=>by
    show dL l o _=_
    unfold dL
    rw [decide_eq_false (by omega:¬ ((l.length:Nat):Int) < ((l.length:Nat):Int))]
    rfl) _ 0 (Nat.zero_le _) (by omega))).trans ?_
 rfl
theorem qu [K:Key] (heq:∀ a b,bF a b=true→a=b) {d u:List (U Qd)} (hp:d.Perm u) (hW:∀ x∈u,Wv x.iv) (hD:u.Pairwise fun a b=>Dj a.iv b.iv):aF d=(dY u,0):=by
 have hWd:∀ x∈d,Wv x.iv:=fun x hx=>hW x (hp.mem_iff.1 hx)
 obtain ⟨s1,s2⟩:=mG (fun x hx=>(hWd x hx).1)
 have hps:=s1.trans hp
 have hE:=(rZ (l:=u.map (·.iv)) (fun i hi=>by obtain ⟨x,hx,rfl⟩:=List.mem_map.1 hi; exact (hW x hx).1)).1
 rw [mz s1.length_eq fun i h0 h1=>(so hW hps s2).2 hD i h0 (by rw [s1.length_eq]; exact h1),mA]
 have e1:ae (am d)=j7 (je (default:Qd) u (o7 (u.map (·.iv)))):=by
  rw [pP]; exact atoms_eq hW hD hps s2
 unfold dY
 rw [e1,nK,tN,rg,loops_eq heq (pz hE)]
theorem pU [K:Key] {u:List (U Qd)} (hW:∀ x∈u,Wv x.iv) (hD:¬ u.Pairwise fun a b=>Dj a.iv b.iv):aF u=([],11):=by
 obtain ⟨s1,s2⟩:=mG (fun x hx=>(hW x hx).1)
 refine pV s1.length_eq ?_
 refine Classical.byContradiction fun hn=>hD ((so hW s1 s2).1 fun i h0 h1=>?_)
 cases hb:cA (gt (am u) (i - 1)).iv (gt (am u) i).iv with
 | true=>rfl
 | false=>exact absurd ⟨i,h0,by rw [← s1.length_eq]; exact h1,hb⟩ hn
end Go.Sx
