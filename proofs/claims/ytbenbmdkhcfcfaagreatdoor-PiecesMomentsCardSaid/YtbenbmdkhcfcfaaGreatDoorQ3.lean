/- A part of the proof of piecesMoments. -/
import Derived.Test.YtbenbmdkhcfcfaaGreatDoorQ1
set_option linter.unusedVariables false
set_option linter.unusedSimpArgs false
open Go.Proofs.Tryz renaming isAgg71 → aa71, sizeOf71 → zz71, isAgg4 → aa4, underlying4 → nn4, runUnderlying55 → uu55, runUnderlying50 → uu50, runUnderlying126 → uu126, runUnderlying86 → uu86
namespace Go.Sx
open Go Go.RowKit Go.Proofs
set_option maxRecDepth 100000
set_option maxHeartbeats 40000000
attribute [local irreducible] aE bM ap aT aJ dF
theorem eqi86 : EqIn Tryz.prog 5 86 vV := eqS (c := cV) (fun _ => rfl) Tryz.underlying86 Tryz.stoodInHeld86 fun d x y w hd => by
 refine Eq.trans (eqF (by decide) (eJ aa71 zz71 (v := vR (x.lo)) rfl w) (eJ aa71 zz71 (v := vR (y.lo)) rfl w) (tL d _ _ w (by omega)) (eqF (by decide) (eJ aa71 zz71 (v := vR (x.hi)) rfl w) (eJ aa71 zz71 (v := vR (y.hi)) rfl w) (tL d _ _ w (by omega)) (eqF (by decide) (gi aa4 rfl w) (gi aa4 rfl w) (eqB nn4 d (by omega) _ _ w) (eqF (by decide) (gi aa4 rfl w) (gi aa4 rfl w) (eqB nn4 d (by omega) _ _ w) eqF0)))) ?_
 congr 1
 rw [decide_eq_decide]
 cases x; cases y; simp
theorem eqp86 : EqP Tryz.prog 86 vV := EqIn.p (k := 5) rfl (c := fun x => (cV x).toArray) (fun _ => rfl) Tryz.eqGuardType86 eqi86
theorem mo (w : World) : (method (Tryz.prog.types.size + Made.depth) 55 (.agg #[]) "Equal").run Tryz.prog w = .ok (367, .agg #[]) w := oa (P := Tryz.prog) (T := 55) Tryz.type55 (by kernel_rfl) uu55 w
theorem lE (w : World) : (nilAhead (Tryz.prog.types.size + Made.depth) 55 (.agg #[]) "Equal").run Tryz.prog w = .ok (some false) w := oK (P := Tryz.prog) (T := 55) (f := 367) Tryz.type55 (by kernel_rfl) uu55 w
def ic (l : List (U Qd)) (more : List GR) (out : List GR) (i : Nat) : (List GR) :=
 out
def cA (l : List (U Qd)) (more : List GR) (out : List GR) (i : Nat) : Nx ((List GR) × Nat) (List GR) :=
 bif (decide (((i : Nat) : Int) < ((l.length : Nat) : Int))) then
  .go ((aA (aA out (((gt l i).iv).lo)) (((gt l i).iv).hi)), (i + 1))
 else
  .out (out, i)
def aq (l : List (U Qd)) (more : List GR) : (List GR) :=
 fin (bR (fun s => cA l more s.1 s.2) ((l.length - 0) + 1) (more, 0)) (fun s => ic l more s.1 s.2) (fun r => r)
theorem ib (l : List (U Qd)) (lv : Value) (more : List GR) (morev : Value) (hl : l.length ≤ 100) (hm : more.length ≤ 100) (zl : All (jI 30) l) (zmore : All (SzR 30) more) (w0 w : World) (B : Asn) (hbel : Below w0.heap.size w0 w) (hsep : ∃ Z_, Sep w0.heap.size w [.row (α := GR) 71 morev more, B] Z_) (hlv : View w0 lv l) : Calls Tryz.prog 61 #[lv, morev] w (RetY w0 (fun v => All (SzR 30) (aq l more) ∧ (aq l more).length ≤ more.length + 2 * l.length) (fun v => [.row (α := GR) 71 v (aq l more), B])) := by
 refine ld (N := 30) (args := [lv, morev]) Tryz.func61 rfl rfl hbel hsep ?_; intro ac h
 have hlenl := hlv.len
 have hlenmore := h.len 0 rfl
 refine ej fun K1 hK1 => ?_
 refine rd0 h (aj rfl) rfl <| gn hK1 <| gr fun K2 hK2 => g0 (ak rfl) rfl <| g0 (aj rfl) rfl <| gn hK2 <| gq fun K3 hK3 => gr fun K4 hK4 => g0 (aj rfl) rfl <| gn hK4 <| gB ?_; clear h ac; intro ac wo h
 obtain ⟨X1, hX1⟩ : ∃ X, bR (fun s => cA l more s.1 s.2) ((l.length - 0) + 1) (more, 0) = X := ⟨_, rfl⟩
 refine wp_loop_ghost (fun n_ a_ w_ => ∃ (out : List GR) (i : Nat) (outv : Value), ((l.length - i) < n_) ∧ (bR (fun s => cA l more s.1 s.2) n_ (out, i) = X1) ∧ (i ≤ l.length) ∧ (All (SzR 30) out) ∧ (out.length ≤ more.length + 2 * i) ∧ St w0 30 [(0, lv), (5, outv), (6, (.int .i64 ((i : Nat) : Int)))] [.row (α := GR) 71 outv out, B] a_ w_) ((l.length - 0) + 1) ⟨more, 0, morev, (by omega), hX1, (by omega), zmore, (by omega), (h.sub ⟨rfl, rfl, rfl, trivial⟩)⟩ ?_
 clear h ac wo; rintro n1 ac wo ⟨out, i, outv, hm1, hL1, hi, zout, hol, h⟩
 obtain ⟨m1, rfl⟩ : ∃ m, n1 = m + 1 := ⟨n1 - 1, by omega⟩
 refine gz h <| gq fun K5 hK5 => gr fun K6 hK6 => g0 (ak rfl) rfl <| g0 (ak rfl) rfl <| g0 (et uu50 rfl hlv.sl) rfl <| g0 (d5 rfl rfl) rfl <| gn hK6 ?_; clear h ac wo; intro ac wo h
 refine dA h rfl (fun hc1 => ?_) (fun hc1 => ?_)
 ·
  have hd1 := of_decide_eq_true hc1
  refine eL ?_
  refine hK5 _ _ ?_
  refine dV fun K7 hK7 => ?_
  refine gg ?_
  refine cZ mixed [dv _, dv _, dv _, dv _, dv _, dv _, dv _, ⟨.nd (.con (All (SzR 30) (aA out (((gt l i).iv).lo)) ∧ (aA out (((gt l i).iv).lo)).length ≤ out.length + 1)), [0]⟩, dv _, dv _, dv _, dv _, dv _, dv _, ⟨.nd (.con (All (SzR 30) (aA (aA out (((gt l i).iv).lo)) (((gt l i).iv).hi)) ∧ (aA (aA out (((gt l i).iv).lo)) (((gt l i).iv).hi)).length ≤ (aA out (((gt l i).iv).lo)).length + 1)), [0]⟩, ⟨.nd (.two 15 14 fun a b => a = b), []⟩] [⟨.row (α := GR) 71 outv out, [(7, .one 7 fun v => .row (α := GR) 71 v (aA out (((gt l i).iv).lo))), (14, .one 14 fun v => .row (α := GR) 71 v (aA (aA out (((gt l i).iv).lo)) (((gt l i).iv).hi)))]⟩, ⟨_, []⟩] h rfl (by kernel_rfl) ⟨fun _ _ => om rfl, fun _ _ => om rfl, fun _ _ => om rfl, fun _ _ => aL (eC (i := i) uu50 Tryz.sizeOf126 rfl rfl (hlv.nn (i := i) (by omega)) (by omega)), fun _ _ => aL (fs uu126 rfl Tryz.sizeOf86 rfl (hlv.nn (i := 0) (by omega)) rfl rfl (k' := i * 32 + 0)), fun _ _ => aL (fs uu86 rfl zz71 rfl (hlv.nn (i := 0) (by omega)) rfl (by first | rfl | (simp only [Nat.add_assoc] <;> rfl)) (k' := i * 32 + 0)), fun _ _ => aL (iR (k := 0) aa71 zz71 hlv (cK (by omega)) rfl rfl rfl rfl (v := (vR (((gt l i).iv).lo))) rfl), fun _ _ => k7 (ψ := fun _ => All (SzR 30) (aA out (((gt l i).iv).lo)) ∧ (aA out (((gt l i).iv).lo)).length ≤ out.length + 1) (B := fun v => [.row (α := GR) 71 v (aA out (((gt l i).iv).lo))]) [.row (α := GR) 71 outv out] rfl (fun v _ => by simp only [fc, bE] <;> rfl) (fun v hv => hv) (nI (vs := [outv, (vR (((gt l i).iv).lo))]) (A := fun v => [.row (α := GR) 71 v (aA out (((gt l i).iv).lo))]) (bF Tryz.call156 rfl) (fun w_ B_ hB_ hS_ => iM out outv (((gt l i).iv).lo) (by omega) zout ((All.gt zl (cG _)).1).1 w0 w_ B_ hB_ hS_ )), fun _ _ => om rfl, fun _ _ => om rfl, fun _ _ => aL (eC (i := i) uu50 Tryz.sizeOf126 rfl rfl (hlv.nn (i := i) (by omega)) (by omega)), fun _ _ => aL (fs uu126 rfl Tryz.sizeOf86 rfl (hlv.nn (i := 0) (by omega)) rfl rfl (k' := i * 32 + 0)), fun _ _ => aL (fs uu86 rfl zz71 rfl (hlv.nn (i := 0) (by omega)) rfl (by first | rfl | (simp only [Nat.add_assoc] <;> rfl)) (k' := i * 32 + 9)), fun _ _ => aL (iR (k := 9) aa71 zz71 hlv (cK (by omega)) rfl rfl rfl rfl (v := (vR (((gt l i).iv).hi))) rfl), (fun ξ hφ => by have of5_7 : All (SzR 30) (aA out (((gt l i).iv).lo)) ∧ (aA out (((gt l i).iv).lo)).length ≤ out.length + 1 := hφ 7 rfl; have pof5_7 := of5_7.2; exact k7 (ψ := fun _ => All (SzR 30) (aA (aA out (((gt l i).iv).lo)) (((gt l i).iv).hi)) ∧ (aA (aA out (((gt l i).iv).lo)) (((gt l i).iv).hi)).length ≤ (aA out (((gt l i).iv).lo)).length + 1) (B := fun v => [.row (α := GR) 71 v (aA (aA out (((gt l i).iv).lo)) (((gt l i).iv).hi))]) [.row (α := GR) 71 (ξ 7) (aA out (((gt l i).iv).lo))] rfl (fun v _ => by simp only [fc, bE] <;> rfl) (fun v hv => hv) (nI (vs := [(ξ 7), (vR (((gt l i).iv).hi))]) (A := fun v => [.row (α := GR) 71 v (aA (aA out (((gt l i).iv).lo)) (((gt l i).iv).hi))]) (bF Tryz.call156 rfl) (fun w_ B_ hB_ hS_ => iM (aA out (((gt l i).iv).lo)) (ξ 7) (((gt l i).iv).hi) (by omega) of5_7.1 ((All.gt zl (cG _)).1).2 w0 w_ B_ hB_ hS_ ))), (fun ξ hφ => by have of5_7 : All (SzR 30) (aA out (((gt l i).iv).lo)) ∧ (aA out (((gt l i).iv).lo)).length ≤ out.length + 1 := hφ 7 rfl; have pof5_7 := of5_7.2; have of5_14 : All (SzR 30) (aA (aA out (((gt l i).iv).lo)) (((gt l i).iv).hi)) ∧ (aA (aA out (((gt l i).iv).lo)) (((gt l i).iv).hi)).length ≤ (aA out (((gt l i).iv).lo)).length + 1 := hφ 14 rfl; have pof5_14 := of5_14.2; exact ob_n (φ := .two 15 14 fun a b => a = b) (v := ξ 14) [] rfl rfl (by show upd ξ 15 (ξ 14) 15 = upd ξ 15 (ξ 14) 14; rw [bE, lm (by decide)]) (aj rfl)), trivial⟩ ?_
  clear h ac wo; intro ξ ac wo hφ h
  replace h : St w0 30 [(0, lv), (5, ξ 15), (6, (.int .i64 ((i : Nat) : Int)))] [.row (α := GR) 71 (ξ 14) (aA (aA out (((gt l i).iv).lo)) (((gt l i).iv).hi)), B] ac wo := (h.pick [0, 1] (by decide)).sub ⟨rfl, rfl, rfl, trivial⟩
  have of5_7 : All (SzR 30) (aA out (((gt l i).iv).lo)) ∧ (aA out (((gt l i).iv).lo)).length ≤ out.length + 1 := hφ 7
  have pof5_7 := of5_7.2
  have of5_14 : All (SzR 30) (aA (aA out (((gt l i).iv).lo)) (((gt l i).iv).hi)) ∧ (aA (aA out (((gt l i).iv).lo)) (((gt l i).iv).hi)).length ≤ (aA out (((gt l i).iv).lo)).length + 1 := hφ 14
  have pof5_14 := of5_14.2
  rw [show ξ 15 = ξ 14 from hφ 15] at h
  generalize hsv14 : ξ 14 = sv1 at h; clear hsv14
  clear hφ ξ
  refine gz h <| gN <| gx hK7 <| gR <| g0 (ak rfl) rfl <| g0 (ch rfl rfl (r := ((i + 1 : Nat) : Int)) (by rw [IntKind.wrap_i64]; omega)) rfl <| g0 (aj rfl) rfl <| gx (fun _ _ => bV) ?_; clear h ac wo; intro ac wo h
  exact aU ⟨m1, (by omega), _, _, _, (by omega), co hL1 (show cA l more out i = .go _ from (cT hc1)), (by omega), of5_14.1, (by omega), (h.pick [0, 1] (by decide)).sub ⟨rfl, rfl, rfl, trivial⟩⟩
 ·
  have hd1 := of_decide_eq_false hc1
  refine ep ?_
  have hx1 := dU hL1 (show cA l more out i = .out (out, i) from (cF hc1))
  refine gz h <| gx hK3 <| gr fun K8 hK8 => g0 (ak rfl) rfl <| g0 (aj rfl) rfl <| gn hK8 <| gT ?_; clear h ac wo; intro ac wo h
  have hd : aq l more = out := (eV (hX1.trans hx1))
  exact ret h rfl (.tmp rfl .nil) rfl ((h.pick [0, 1] (by decide)).retY (by rw [hd]; exact ⟨zout, (by omega)⟩) (by rw [hd]; rfl))
attribute [irreducible] aq
def jA (l : List (U Qd)) (ts : List GR) (out : List (At Qd)) (i : Nat) (i2 : Nat) (out2 : List (At Qd)) : (List (At Qd)) :=
 out2
def fI (l : List (U Qd)) (ts : List GR) (out : List (At Qd)) (i : Nat) (i2 : Nat) (out2 : List (At Qd)) (k3 : Nat) (out3 : List (At Qd)) : Nx (Nat × (List (At Qd))) (List (At Qd)) :=
 .go ((i2 + 1), out3)
def dL (l : List (U Qd)) (ts : List GR) (out : List (At Qd)) (i : Nat) (i2 : Nat) (out2 : List (At Qd)) (k3 : Nat) (out3 : List (At Qd)) : Nx (Nat × (List (At Qd))) (List (At Qd)) :=
 bif (decide (((k3 : Nat) : Int) < ((l.length : Nat) : Int))) then
  bif (aW ((gt l k3).iv) ((gt out3 i2).frm) ((gt out3 i2).til) ((gt out3 i2).gap)) then
   .go ((k3 + 1), (out3.set i2 (⟨(gt out3 i2).frm, (gt out3 i2).til, (gt out3 i2).gap, true, (gt l k3).f⟩ : At Qd)))
  else
   .go ((k3 + 1), out3)
 else
  .out (k3, out3)
def dM (l : List (U Qd)) (ts : List GR) (out : List (At Qd)) (i : Nat) (i2 : Nat) (out2 : List (At Qd)) : Nx (Nat × (List (At Qd))) (List (At Qd)) :=
 bif (decide (((i2 : Nat) : Int) < ((out2.length : Nat) : Int))) then
  fin (bR (fun s => dL l ts out i i2 out2 s.1 s.2) ((l.length - 0) + 1) (0, out2)) (fun s => fI l ts out i i2 out2 s.1 s.2) (fun r => .ret r)
 else
  .out (i2, out2)
def fJ (l : List (U Qd)) (ts : List GR) (out : List (At Qd)) (i : Nat) : (List (At Qd)) :=
 fin (bR (fun s => dM l ts out i s.1 s.2) ((out.length - 0) + 1) (0, out)) (fun s => jA l ts out i s.1 s.2) (fun r => r)
def da (l : List (U Qd)) (ts : List GR) (out : List (At Qd)) (i : Nat) : Nx ((List (At Qd)) × Nat) (List (At Qd)) :=
 bif (decide (((i : Nat) : Int) < ((ts.length : Nat) : Int))) then
  bif (decide (((i + 1 : Nat) : Int) < ((ts.length : Nat) : Int))) then
   .go (((out ++ [(⟨(gt ts i), (gt ts i), false, false, (⟨(⟨(⟨false, 0⟩ : GI), (⟨false, 0⟩ : GI)⟩ : GQ), (⟨(⟨false, 0⟩ : GI), (⟨false, 0⟩ : GI)⟩ : GQ), (⟨(⟨false, 0⟩ : GI), (⟨false, 0⟩ : GI)⟩ : GQ)⟩ : Qd)⟩ : At Qd)]) ++ [(⟨(gt ts i), (gt ts (i + 1)), true, false, (⟨(⟨(⟨false, 0⟩ : GI), (⟨false, 0⟩ : GI)⟩ : GQ), (⟨(⟨false, 0⟩ : GI), (⟨false, 0⟩ : GI)⟩ : GQ), (⟨(⟨false, 0⟩ : GI), (⟨false, 0⟩ : GI)⟩ : GQ)⟩ : Qd)⟩ : At Qd)]), (i + 1))
  else
   .go ((out ++ [(⟨(gt ts i), (gt ts i), false, false, (⟨(⟨(⟨false, 0⟩ : GI), (⟨false, 0⟩ : GI)⟩ : GQ), (⟨(⟨false, 0⟩ : GI), (⟨false, 0⟩ : GI)⟩ : GQ), (⟨(⟨false, 0⟩ : GI), (⟨false, 0⟩ : GI)⟩ : GQ)⟩ : Qd)⟩ : At Qd)]), (i + 1))
 else
  .out (out, i)
def fp (l : List (U Qd)) (ts : List GR) : (List (At Qd)) :=
 fin (bR (fun s => da l ts s.1 s.2) ((ts.length - 0) + 1) ([], 0)) (fun s => fJ l ts s.1 s.2) (fun r => r)
attribute [irreducible] fp
end Go.Sx
namespace Go.Sx
open Go Go.RowKit Go.Proofs
set_option maxRecDepth 100000
set_option maxHeartbeats 40000000
attribute [local irreducible] aE bM ap aT aJ dF
theorem j7 (w : World) : (method (Tryz.prog.types.size + Made.depth) 55 (.agg #[]) "Reduce").run Tryz.prog w = .ok (368, .agg #[]) w := oa (P := Tryz.prog) (T := 55) Tryz.type55 (by kernel_rfl) uu55 w
theorem j6 (w : World) : (method (Tryz.prog.types.size + Made.depth) 55 (.agg #[]) "Same").run Tryz.prog w = .ok (369, .agg #[]) w := oa (P := Tryz.prog) (T := 55) Tryz.type55 (by kernel_rfl) uu55 w
theorem jt (w : World) : (nilAhead (Tryz.prog.types.size + Made.depth) 55 (.agg #[]) "Same").run Tryz.prog w = .ok (some false) w := oK (P := Tryz.prog) (T := 55) (f := 369) Tryz.type55 (by kernel_rfl) uu55 w
def jz (l : List (At Qd)) (out : List (U Qd)) (i : Nat) : (List (U Qd)) :=
 out
def dK (l : List (At Qd)) (out : List (U Qd)) (i : Nat) : Nx ((List (U Qd)) × Nat) (List (U Qd)) :=
 bif (decide (((i : Nat) : Int) < ((l.length : Nat) : Int))) then
  bif (gt l i).gap then
   bif (!(gt l i).has) then
    .go (out, (i + 1))
   else
    bif (((((decide (((i : Nat) : Int) ≥ 2)) && (gt l (i - 2)).has) && (gt l (i - 1)).has) && (bc ((gt l (i - 2)).f) ((gt l (i - 1)).f) ((gt l i).frm))) && (bL ((gt l (i - 2)).f) ((gt l i).f))) then
     .go ((out.set (out.length - 1) (⟨(⟨((gt out (out.length - 1)).iv).lo, (gt l i).til, ((gt out (out.length - 1)).iv).openLo, true⟩ : Iv), (gt out (out.length - 1)).f⟩ : U Qd)), (i + 1))
    else
     .go ((out ++ [(⟨(⟨(gt l i).frm, (gt l i).til, (!(((gt l (i - 1)).has && (bc ((gt l i).f) ((gt l (i - 1)).f) ((gt l i).frm))) && (!(((decide (((i : Nat) : Int) ≥ 2)) && (gt l (i - 2)).has) && (bc ((gt l (i - 2)).f) ((gt l (i - 1)).f) ((gt l i).frm)))))), true⟩ : Iv), (gt l i).f⟩ : U Qd)]), (i + 1))
  else
   bif (!(gt l i).has) then
    .go (out, (i + 1))
   else
    bif (((decide (((i : Nat) : Int) > 0)) && (gt l (i - 1)).has) && (bc ((gt l (i - 1)).f) ((gt l i).f) ((gt l i).frm))) then
     .go ((out.set (out.length - 1) (⟨(⟨((gt out (out.length - 1)).iv).lo, ((gt out (out.length - 1)).iv).hi, ((gt out (out.length - 1)).iv).openLo, false⟩ : Iv), (gt out (out.length - 1)).f⟩ : U Qd)), (i + 1))
    else
     bif (((decide (((i + 1 : Nat) : Int) < ((l.length : Nat) : Int))) && (gt l (i + 1)).has) && (bc ((gt l (i + 1)).f) ((gt l i).f) ((gt l i).frm))) then
      .go (out, (i + 1))
     else
      .go ((out ++ [(⟨(⟨(gt l i).frm, (gt l i).til, false, false⟩ : Iv), (aV ((gt l i).f) ((gt l i).frm))⟩ : U Qd)]), (i + 1))
 else
  .out (out, i)
def fo (l : List (At Qd)) : (List (U Qd)) :=
 fin (bR (fun s => dK l s.1 s.2) ((l.length - 0) + 1) ([], 0)) (fun s => jz l s.1 s.2) (fun r => r)
attribute [irreducible] fo
def ce (l : List (U Qd)) : (List (U Qd)) :=
 (fo (fp l (aq l ([]))))
attribute [irreducible] ce
end Go.Sx
