import Derived.Test.YtbenbmdkhcfcfaaGreatDoorQ1
set_option linter.unusedVariables false
set_option linter.unusedSimpArgs false
open Go.Proofs.Tryz renaming prog → zP, runUnderlying55 → uu55
namespace Go.Sx
open Go Go.RowKit Go.Proofs
set_option maxRecDepth 100000
set_option maxHeartbeats 40000000
attribute [local irreducible] Code.wp wpList Rd gW ObS Ent
attribute [local irreducible] an bB ah aO az c8
theorem mr (w : World) : (method (Tryz.prog.types.size + Made.depth) 55 (.agg #[]) "Equal").run zP w = .ok (367, .agg #[]) w := kM (P := zP) (T := 55) Tryz.type55 (by kernel_rfl) uu55 w
instance zi51 : Mt zP 55 (.agg #[]) "Equal" 367 := ⟨mr⟩
theorem lJ (w : World) : (nilAhead (Tryz.prog.types.size + Made.depth) 55 (.agg #[]) "Equal").run zP w = .ok (some false) w := jn (P := zP) (T := 55) (f := 367) Tryz.type55 (by kernel_rfl) uu55 w
instance zi52 : Nl zP 55 (.agg #[]) "Equal" := ⟨lJ⟩
theorem kn (w : World) : (method (Tryz.prog.types.size + Made.depth) 55 (.agg #[]) "Reduce").run zP w = .ok (368, .agg #[]) w := kM (P := zP) (T := 55) Tryz.type55 (by kernel_rfl) uu55 w
instance zi53 : Mt zP 55 (.agg #[]) "Reduce" 368 := ⟨kn⟩
theorem kV (w : World) : (nilAhead (Tryz.prog.types.size + Made.depth) 55 (.agg #[]) "Reduce").run zP w = .ok (some false) w := jn (P := zP) (T := 55) (f := 368) Tryz.type55 (by kernel_rfl) uu55 w
instance zi54 : Nl zP 55 (.agg #[]) "Reduce" := ⟨kV⟩
theorem nq (w : World) : (method (Tryz.prog.types.size + Made.depth) 55 (.agg #[]) "Same").run zP w = .ok (369, .agg #[]) w := kM (P := zP) (T := 55) Tryz.type55 (by kernel_rfl) uu55 w
instance zi55 : Mt zP 55 (.agg #[]) "Same" 369 := ⟨nq⟩
theorem mq (w : World) : (nilAhead (Tryz.prog.types.size + Made.depth) 55 (.agg #[]) "Same").run zP w = .ok (some false) w := jn (P := zP) (T := 55) (f := 369) Tryz.type55 (by kernel_rfl) uu55 w
instance zi56 : Nl zP 55 (.agg #[]) "Same" := ⟨mq⟩
def fu (l:List (U Qd)) (x18:Nat) (out:List (U Qd)) (x43:Nat):(List (U Qd))×Int :=
 (out,0)
def cY (l:List (U Qd)) (x18:Nat) (out:List (U Qd)) (x43:Nat):Nx ((List (U Qd))×Nat) ((List (U Qd))×Int) :=
 bif (decide ((x43:Int) < (((af (ao l)).length:Nat):Int))) then
  bif (((decide ((out.length:Int)>0)) && (decide (((gt out (out.length - 1)).iv).hi=((gt (af (ao l)) x43).iv).lo))) && (!(aN ((gt out (out.length - 1)).iv)))) then
   bif (!(aN ((gt (af (ao l)) x43).iv))) then
    bif ((!((gt out (out.length - 1)).iv).openHi) && (aX ((gt out (out.length - 1)).f) ((gt (af (ao l)) x43).f))) then
     .go ((out.set (out.length - 1) (⟨(⟨((gt out (out.length - 1)).iv).lo,((gt (af (ao l)) x43).iv).hi,((gt out (out.length - 1)).iv).openLo,true⟩:Iv),(gt out (out.length - 1)).f⟩:U Qd)),(x43+1))
    else
     bif ((((decide ((x43:Int)>0)) && (aN ((gt (af (ao l)) (x43 - 1)).iv))) && (decide (((gt (af (ao l)) (x43 - 1)).iv).lo=((gt (af (ao l)) x43).iv).lo))) && (!(eT out (((gt (af (ao l)) x43).iv).lo)))) then
      .go ((out++[(⟨(⟨((gt (af (ao l)) x43).iv).lo,((gt (af (ao l)) x43).iv).hi,false,((gt (af (ao l)) x43).iv).openHi⟩:Iv),(gt (af (ao l)) x43).f⟩:U Qd)]),(x43+1))
     else
      .go ((out++[(gt (af (ao l)) x43)]),(x43+1))
   else
    bif (aB ((gt out (out.length - 1)).f) ((gt (af (ao l)) x43).f) (((gt (af (ao l)) x43).iv).lo)) then
     .go ((out.set (out.length - 1) (⟨(⟨((gt out (out.length - 1)).iv).lo,((gt out (out.length - 1)).iv).hi,((gt out (out.length - 1)).iv).openLo,false⟩:Iv),(gt out (out.length - 1)).f⟩:U Qd)),(x43+1))
    else
     bif (((decide (((x43+1:Nat):Int) < (((af (ao l)).length:Nat):Int))) && (decide (((gt (af (ao l)) (x43+1)).iv).lo=((gt (af (ao l)) x43).iv).lo))) && (aB ((gt (af (ao l)) (x43+1)).f) ((gt (af (ao l)) x43).f) (((gt (af (ao l)) x43).iv).lo))) then
      .go (out,(x43+1))
     else
      .go ((out++[(⟨(gt (af (ao l)) x43).iv,(ar ((gt (af (ao l)) x43).f) (((gt (af (ao l)) x43).iv).lo))⟩:U Qd)]),(x43+1))
  else
   bif (!(aN ((gt (af (ao l)) x43).iv))) then
    bif ((((decide ((x43:Int)>0)) && (aN ((gt (af (ao l)) (x43 - 1)).iv))) && (decide (((gt (af (ao l)) (x43 - 1)).iv).lo=((gt (af (ao l)) x43).iv).lo))) && (!(eT out (((gt (af (ao l)) x43).iv).lo)))) then
     .go ((out++[(⟨(⟨((gt (af (ao l)) x43).iv).lo,((gt (af (ao l)) x43).iv).hi,false,((gt (af (ao l)) x43).iv).openHi⟩:Iv),(gt (af (ao l)) x43).f⟩:U Qd)]),(x43+1))
    else
     .go ((out++[(gt (af (ao l)) x43)]),(x43+1))
   else
    bif (((decide (((x43+1:Nat):Int) < (((af (ao l)).length:Nat):Int))) && (decide (((gt (af (ao l)) (x43+1)).iv).lo=((gt (af (ao l)) x43).iv).lo))) && (aB ((gt (af (ao l)) (x43+1)).f) ((gt (af (ao l)) x43).f) (((gt (af (ao l)) x43).iv).lo))) then
     .go (out,(x43+1))
    else
     .go ((out++[(⟨(gt (af (ao l)) x43).iv,(ar ((gt (af (ao l)) x43).f) (((gt (af (ao l)) x43).iv).lo))⟩:U Qd)]),(x43+1))
 else
  .out (out,x43)
def dJ (l:List (U Qd)) (x18:Nat):(List (U Qd))×Int :=
 fin (bt (fun s=>cY l x18 s.1 s.2) (((af (ao l)).length - 0)+1) ([],0)) (fun s=>fu l x18 s.1 s.2) (fun r=>r)
def dY (l:List (U Qd)) (x18:Nat):Nx Nat ((List (U Qd))×Int) :=
 bif (decide ((x18:Int) < ((ao l).length:Int))) then
  bif ((decide ((x18:Int)>0)) && (!(dI ((gt (ao l) (x18 - 1)).iv) ((gt (ao l) x18).iv)))) then
   .ret ([],11)
  else
   .go (x18+1)
 else
  .out x18
def bn (l:List (U Qd)):(List (U Qd))×Int :=
 fin (bt (fun s=>dY l s) ((l.length - 0)+1) 0) (fun s=>dJ l s) (fun r=>r)
attribute [irreducible] bn
end Go.Sx
