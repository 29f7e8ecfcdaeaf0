/- Part of piecesMaps. -/
import Derived.Test.YtbenbmdkhcfcfaaGreatDoorQ1
set_option linter.unusedVariables false
set_option linter.unusedSimpArgs false
open Go.Proofs.Tryz renaming prog → zP, runUnderlying55 → uu55
namespace Go.Sx
open Go Go.RowKit Go.Proofs
set_option maxRecDepth 100000
set_option maxHeartbeats 40000000
attribute [local irreducible] Code.wp wpList Rd iq ObS Ent
attribute [local irreducible] ar bS ao aR aG cX
theorem mz (w : World) : (method (Tryz.prog.types.size + Made.depth) 55 (.agg #[]) "Equal").run zP w = .ok (367, .agg #[]) w := k8 (P := zP) (T := 55) Tryz.type55 (by kernel_rfl) uu55 w
instance : Mt zP 55 (.agg #[]) "Equal" 367 := ⟨mz⟩
theorem lR (w : World) : (nilAhead (Tryz.prog.types.size + Made.depth) 55 (.agg #[]) "Equal").run zP w = .ok (some false) w := ju (P := zP) (T := 55) (f := 367) Tryz.type55 (by kernel_rfl) uu55 w
instance : Nl zP 55 (.agg #[]) "Equal" := ⟨lR⟩
theorem kq (w : World) : (method (Tryz.prog.types.size + Made.depth) 55 (.agg #[]) "Reduce").run zP w = .ok (368, .agg #[]) w := k8 (P := zP) (T := 55) Tryz.type55 (by kernel_rfl) uu55 w
instance : Mt zP 55 (.agg #[]) "Reduce" 368 := ⟨kq⟩
theorem lm (w : World) : (nilAhead (Tryz.prog.types.size + Made.depth) 55 (.agg #[]) "Reduce").run zP w = .ok (some false) w := ju (P := zP) (T := 55) (f := 368) Tryz.type55 (by kernel_rfl) uu55 w
instance : Nl zP 55 (.agg #[]) "Reduce" := ⟨lm⟩
theorem nv (w : World) : (method (Tryz.prog.types.size + Made.depth) 55 (.agg #[]) "Same").run zP w = .ok (369, .agg #[]) w := k8 (P := zP) (T := 55) Tryz.type55 (by kernel_rfl) uu55 w
instance : Mt zP 55 (.agg #[]) "Same" 369 := ⟨nv⟩
theorem my (w : World) : (nilAhead (Tryz.prog.types.size + Made.depth) 55 (.agg #[]) "Same").run zP w = .ok (some false) w := ju (P := zP) (T := 55) (f := 369) Tryz.type55 (by kernel_rfl) uu55 w
instance : Nl zP 55 (.agg #[]) "Same" := ⟨my⟩
def fE (l : List (U Qd)) (x18 : Nat) (out : List (U Qd)) (x43 : Nat) : (List (U Qd)) × Int :=
 (out, 0)
def dg (l : List (U Qd)) (x18 : Nat) (out : List (U Qd)) (x43 : Nat) : Nx ((List (U Qd)) × Nat) ((List (U Qd)) × Int) :=
 bif (decide ((x43 : Int) < (((af (ax l)).length : Nat) : Int))) then
  bif (((decide ((out.length : Int) > 0)) && (decide (((gt out (out.length - 1)).iv).hi = ((gt (af (ax l)) x43).iv).lo))) && (!(aL ((gt out (out.length - 1)).iv)))) then
   bif (!(aL ((gt (af (ax l)) x43).iv))) then
    bif ((!((gt out (out.length - 1)).iv).openHi) && (bF ((gt out (out.length - 1)).f) ((gt (af (ax l)) x43).f))) then
     .go ((out.set (out.length - 1) (⟨(⟨((gt out (out.length - 1)).iv).lo, ((gt (af (ax l)) x43).iv).hi, ((gt out (out.length - 1)).iv).openLo, true⟩ : Iv), (gt out (out.length - 1)).f⟩ : U Qd)), (x43 + 1))
    else
     bif ((((decide ((x43 : Int) > 0)) && (aL ((gt (af (ax l)) (x43 - 1)).iv))) && (decide (((gt (af (ax l)) (x43 - 1)).iv).lo = ((gt (af (ax l)) x43).iv).lo))) && (!(e9 out (((gt (af (ax l)) x43).iv).lo)))) then
      .go ((out ++ [(⟨(⟨((gt (af (ax l)) x43).iv).lo, ((gt (af (ax l)) x43).iv).hi, false, ((gt (af (ax l)) x43).iv).openHi⟩ : Iv), (gt (af (ax l)) x43).f⟩ : U Qd)]), (x43 + 1))
     else
      .go ((out ++ [(gt (af (ax l)) x43)]), (x43 + 1))
   else
    bif (aW ((gt out (out.length - 1)).f) ((gt (af (ax l)) x43).f) (((gt (af (ax l)) x43).iv).lo)) then
     .go ((out.set (out.length - 1) (⟨(⟨((gt out (out.length - 1)).iv).lo, ((gt out (out.length - 1)).iv).hi, ((gt out (out.length - 1)).iv).openLo, false⟩ : Iv), (gt out (out.length - 1)).f⟩ : U Qd)), (x43 + 1))
    else
     bif (((decide (((x43 + 1 : Nat) : Int) < (((af (ax l)).length : Nat) : Int))) && (decide (((gt (af (ax l)) (x43 + 1)).iv).lo = ((gt (af (ax l)) x43).iv).lo))) && (aW ((gt (af (ax l)) (x43 + 1)).f) ((gt (af (ax l)) x43).f) (((gt (af (ax l)) x43).iv).lo))) then
      .go (out, (x43 + 1))
     else
      .go ((out ++ [(⟨(gt (af (ax l)) x43).iv, (aI ((gt (af (ax l)) x43).f) (((gt (af (ax l)) x43).iv).lo))⟩ : U Qd)]), (x43 + 1))
  else
   bif (!(aL ((gt (af (ax l)) x43).iv))) then
    bif ((((decide ((x43 : Int) > 0)) && (aL ((gt (af (ax l)) (x43 - 1)).iv))) && (decide (((gt (af (ax l)) (x43 - 1)).iv).lo = ((gt (af (ax l)) x43).iv).lo))) && (!(e9 out (((gt (af (ax l)) x43).iv).lo)))) then
     .go ((out ++ [(⟨(⟨((gt (af (ax l)) x43).iv).lo, ((gt (af (ax l)) x43).iv).hi, false, ((gt (af (ax l)) x43).iv).openHi⟩ : Iv), (gt (af (ax l)) x43).f⟩ : U Qd)]), (x43 + 1))
    else
     .go ((out ++ [(gt (af (ax l)) x43)]), (x43 + 1))
   else
    bif (((decide (((x43 + 1 : Nat) : Int) < (((af (ax l)).length : Nat) : Int))) && (decide (((gt (af (ax l)) (x43 + 1)).iv).lo = ((gt (af (ax l)) x43).iv).lo))) && (aW ((gt (af (ax l)) (x43 + 1)).f) ((gt (af (ax l)) x43).f) (((gt (af (ax l)) x43).iv).lo))) then
     .go (out, (x43 + 1))
    else
     .go ((out ++ [(⟨(gt (af (ax l)) x43).iv, (aI ((gt (af (ax l)) x43).f) (((gt (af (ax l)) x43).iv).lo))⟩ : U Qd)]), (x43 + 1))
 else
  .out (out, x43)
def dI (l : List (U Qd)) (x18 : Nat) : (List (U Qd)) × Int :=
 fin (bo (fun s => dg l x18 s.1 s.2) (((af (ax l)).length - 0) + 1) ([], 0)) (fun s => fE l x18 s.1 s.2) (fun r => r)
def d6 (l : List (U Qd)) (x18 : Nat) : Nx Nat ((List (U Qd)) × Int) :=
 bif (decide ((x18 : Int) < ((ax l).length : Int))) then
  bif ((decide ((x18 : Int) > 0)) && (!(dp ((gt (ax l) (x18 - 1)).iv) ((gt (ax l) x18).iv)))) then
   .ret ([], 11)
  else
   .go (x18 + 1)
 else
  .out x18
def bG (l : List (U Qd)) : (List (U Qd)) × Int :=
 fin (bo (fun s => d6 l s) ((l.length - 0) + 1) 0) (fun s => dI l s) (fun r => r)
attribute [irreducible] bG
end Go.Sx
