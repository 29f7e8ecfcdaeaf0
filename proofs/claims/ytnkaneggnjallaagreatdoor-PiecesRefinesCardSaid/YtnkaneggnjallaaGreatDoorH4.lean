/- A part of the proof that the law PiecesRefines answers true at every input and leaves its arguments as they were. -/
import Derived.Test.YtnkaneggnjallaaGreatDoorH3
set_option linter.unusedVariables false
set_option linter.unusedSimpArgs false
open Go.Proofs.Tryz renaming runUnderlying24 → uu24, runUnderlying87 → uu87, runUnderlying256 → uu256, sizeOf3 → zz3
namespace Go.Sx
open Go Go.RowKit Go.Proofs
set_option maxRecDepth 100000
set_option maxHeartbeats 40000000
attribute [local irreducible] ao bU aj az bE aP aE aA dG cj aQ
def aV (l : List (U Int)) : (List (U Int)) :=
 (cM (bT l (bI l ([]))))
theorem fu (l : List (U Int)) (lv : Value) (hl : l.length ≤ 100) (zl : All (SzUI 30) l) (w0 : World) (hlv : View w0 lv l) : Calls Tryz.prog 23 #[(.iface 31 (.agg #[])), lv] w0 (RetR w0 57 (aV l) (All (SzUI 30) (aV l) ∧ (aV l).length ≤ 4 * l.length)) := by
 refine enter (N := 11) (args := [(.iface 31 (.agg #[])), lv]) Tryz.func23 rfl rfl ?_; intro ac h
 have hlenl := hlv.len
 refine d8 fun K1 hK1 => ?_
 refine rd0 h (ae rfl) rfl <| gn hK1 <| gr fun K2 hK2 => g0 (af rfl) rfl <| g0 (af rfl) rfl <| g0 (af rfl) rfl ?_; clear h ac; intro ac wo h
 replace h := h.nilRow (α := GR) 53
 refine on1 h 0 rfl (kG (vs := [lv, (.slice none 0 0)]) (A := fun v => [.row (α := GR) 53 v (bI l ([]))]) (c8 Tryz.call90 rfl) (fun w_ B_ hB_ hS_ => iK l lv ([]) (.slice none 0 0) (by first | omega | grind) (by first | omega | grind) zl All.nil w0 w_ B_ hB_ hS_ hlv)) rfl ?_; clear h ac wo; intro sv2 ac wo s3 h
 have p4 := s3.2
 have s5 := RetR.pr ((fun w_ hB_ hS_ => fK l lv (bI l ([])) sv2 (by first | omega | grind) (by first | omega | grind) zl s3.1 w_ (hlv.below hB_) (row_view hS_ 0 rfl)) _ h.bel h.sep)
 have p6 := s5.2
 have p6_0 := p6.1
 have p6_1 := p6.2
 refine j9 (xs := (bT l (bI l ([])))) h (c8 Tryz.call89 rfl) (fun w_ hB_ hS_ => fK l lv (bI l ([])) sv2 (by first | omega | grind) (by first | omega | grind) zl s3.1 w_ (hlv.below hB_) (row_view hS_ 0 rfl)) rfl ?_; clear h ac wo; intro sv7 ac wo _ h
 have s8 := RetR.pr ((fun w_ hB_ hS_ => fJ (bT l (bI l ([]))) sv7 (by first | omega | grind) (by first | omega | grind) s5.1 w_ (row_view hS_ 0 rfl)) _ h.bel h.sep)
 have p9 := s8.2
 refine j9 (xs := (cM (bT l (bI l ([]))))) h (c8 Tryz.call88 rfl) (fun w_ hB_ hS_ => fJ (bT l (bI l ([]))) sv7 (by first | omega | grind) (by first | omega | grind) s5.1 w_ (row_view hS_ 0 rfl)) rfl ?_; clear h ac wo; intro sv10 ac wo _ h
 refine rd0 h (ae rfl) rfl <| gn hK2 <| gT ?_; clear h ac wo; intro ac wo h
 exact ret h rfl (.tmp rfl .nil) rfl (by unfold aV; exact h.retR 0 rfl ⟨s8.1, (by first | omega | grind)⟩)
attribute [irreducible] aV
def gu (l : List (U Qd)) (out : List (U Int)) (i : Nat) : (List (U Int)) :=
 out
def cq (l : List (U Qd)) (out : List (U Int)) (i : Nat) : Nx ((List (U Int)) × Nat) (List (U Int)) :=
 bif (decide (((i : Nat) : Int) < ((l.length : Nat) : Int))) then
  .go ((out ++ [(⟨(gt l i).iv, (az (((gt l i).f).c0))⟩ : U Int)]), (i + 1))
 else
  .out (out, i)
def a6 (l : List (U Qd)) : (List (U Int)) :=
 fin (bQ (fun s => cq l s.1 s.2) ((l.length - 0) + 1) ([], 0)) (fun s => gu l s.1 s.2) (fun r => r)
theorem gp (l : List (U Qd)) (lv : Value) (hl : l.length ≤ 1000) (zl : All (i3 30) l) (w0 : World) (hlv : View w0 lv l) : Calls Tryz.prog 18 #[lv] w0 (RetR w0 57 (a6 l) (All (SzUI 30) (a6 l) ∧ (a6 l).length = l.length)) := by
 refine enter (N := 28) (args := [lv]) Tryz.func18 rfl rfl ?_; intro ac h
 have hlenl := hlv.len
 refine d8 fun K1 hK1 => ?_
 refine rd0 h (ae rfl) rfl <| gn hK1 <| gr fun K2 hK2 => g0 (ae rfl) rfl <| gn hK2 <| gq fun K3 hK3 => gr fun K4 hK4 => g0 (ae rfl) rfl <| gn hK4 <| gB ?_; clear h ac; intro ac wo h
 replace h := h.nilRow (α := U Int) 57
 obtain ⟨X1, hX1⟩ : ∃ X, bQ (fun s => cq l s.1 s.2) ((l.length - 0) + 1) ([], 0) = X := ⟨_, rfl⟩
 refine wp_loop_ghost (fun n_ a_ w_ => ∃ (out : List (U Int)) (i : Nat) (outv : Value), ((l.length - i) < n_) ∧ (bQ (fun s => cq l s.1 s.2) n_ (out, i) = X1) ∧ (i ≤ l.length) ∧ (All (SzUI 30) out) ∧ (out.length = i) ∧ St w0 28 [(0, lv), (3, outv), (4, (.int .i64 ((i : Nat) : Int)))] [.row (α := U Int) 57 outv out] a_ w_) ((l.length - 0) + 1) ⟨[], 0, (.slice none 0 0), (by omega), hX1, (by first | omega | grind), All.nil, (by first | omega | grind), (h.sub ⟨rfl, rfl, rfl, trivial⟩)⟩ ?_
 clear h ac wo; rintro n1 ac wo ⟨out, i, outv, hm1, hL1, hi, zout, hol, h⟩
 obtain ⟨m1, rfl⟩ : ∃ m, n1 = m + 1 := ⟨n1 - 1, by omega⟩
 refine gz h <| gq fun K5 hK5 => gr fun K6 hK6 => g0 (af rfl) rfl <| g0 (af rfl) rfl <| g0 (dp uu24 rfl hlv.sl) rfl <| g0 (dk rfl rfl) rfl <| gn hK6 ?_; clear h ac wo; intro ac wo h
 refine dg h rfl (fun hc1 => ?_) (fun hc1 => ?_)
 ·
  have hd1 := of_decide_eq_true hc1
  refine dI ?_
  refine hK5 _ _ ?_
  refine di fun K7 hK7 => ?_
  refine eX ?_
  have p3 := ax ((db (((gt l i).f).c0)) w0)
  replace h := h.emps 1
  refine cb mixed [dv _, dv _, dv _, dv _, dv _, dv _, dv _, dv _, dv _, dv _, dv _, dv _, dv _, dv _, ⟨.nd (.one 14 fun v => NN v 1), [1]⟩, ⟨.nd (.con True), [0, 1]⟩, ⟨.nd (.two 16 15 fun a b => a = b), []⟩] [⟨.row (α := U Int) 57 outv out, [(15, .one 15 fun v => .row (α := U Int) 57 v (out ++ [(⟨(gt l i).iv, (az (((gt l i).f).c0))⟩ : U Int)]))]⟩, ⟨.emp, [(14, .one 14 fun v => .row (α := U Int) 57 v ([(⟨(gt l i).iv, (az (((gt l i).f).c0))⟩ : U Int)]))]⟩] h rfl (by kernel_rfl) ⟨fun _ _ => om rfl, fun _ _ => om rfl, fun _ _ => om rfl, fun _ _ => aq (dh (i := i) uu24 Tryz.sizeOf87 rfl rfl (hlv.nn (i := i) (by first | omega | grind)) (by first | omega | grind)), fun _ _ => aq (fs uu87 rfl Tryz.sizeOf55 rfl (hlv.nn (i := 0) (by first | omega | grind)) rfl rfl (k' := i * 32 + 0)), fun _ _ => aq (dX (k := 0) Tryz.isAgg55 Tryz.sizeOf55 hlv (bi (by first | omega | grind)) rfl rfl rfl rfl (v := (vV ((gt l i).iv))) rfl), fun _ _ => om rfl, fun _ _ => om rfl, fun _ _ => aq (dh (i := i) uu24 Tryz.sizeOf87 rfl rfl (hlv.nn (i := i) (by first | omega | grind)) (by first | omega | grind)), fun _ _ => aq (fs uu87 rfl Tryz.sizeOf69 rfl (hlv.nn (i := 0) (by first | omega | grind)) rfl rfl (k' := i * 32 + 20)), fun _ _ => aq (fs Tryz.runUnderlying69 rfl Tryz.sizeOf40 rfl (hlv.nn (i := 0) (by first | omega | grind)) rfl (by first | rfl | (simp only [Nat.add_assoc] <;> rfl)) (k' := i * 32 + 20)), fun _ _ => aq (dX (k := 20) Tryz.isAgg40 Tryz.sizeOf40 hlv (bi (by first | omega | grind)) rfl rfl rfl rfl (v := (vQ (((gt l i).f).c0))) rfl), fun _ _ => eg (ec (c8 Tryz.call58 rfl) (kk (db (((gt l i).f).c0)))), fun _ _ => aq (bG bld57 rfl rfl (v := (vUI (⟨(gt l i).iv, (az (((gt l i).f).c0))⟩ : U Int))) rfl), fun _ _ => iD (ψ := fun v => NN v 1) (B := fun v => [.row (α := U Int) 57 v ([(⟨(gt l i).iv, (az (((gt l i).f).c0))⟩ : U Int)])]) [.emp] rfl (fun v _ => by simp only [dO, aX] <;> rfl) (fun v hv => by simpa [DF.one, aX] using hv) (gV (cn (α := U Int) (xs := [.tmp 24]) (vs := [(vUI (⟨(gt l i).iv, (az (((gt l i).f).c0))⟩ : U Int))]) [(⟨(gt l i).iv, (az (((gt l i).f).c0))⟩ : U Int)] oZ rfl rfl rfl (by decide))), fun ξ hφ => iD (B := fun v => [.row (α := U Int) 57 v (out ++ [(⟨(gt l i).iv, (az (((gt l i).f).c0))⟩ : U Int)]), .row (α := U Int) 57 (ξ 14) ([(⟨(gt l i).iv, (az (((gt l i).f).c0))⟩ : U Int)])]) [.row (α := U Int) 57 outv out, .row (α := U Int) 57 (ξ 14) ([(⟨(gt l i).iv, (az (((gt l i).f).c0))⟩ : U Int)])] rfl (fun v _ => by simp only [dO, aX] <;> rfl) (fun _ _ => trivial) (d4 (xs := out) (ys := [(⟨(gt l i).iv, (az (((gt l i).f).c0))⟩ : U Int)]) oZ (fun w hs => (row_view hs 0 rfl)) rfl rfl (by first | omega | grind)), fun ξ hφ => o8 (φ := .two 16 15 fun a b => a = b) (v := ξ 15) [] rfl rfl (by show upd ξ 16 (ξ 15) 16 = upd ξ 16 (ξ 15) 15; rw [aX, fO (by decide)]) (ae rfl), trivial⟩ ?_
  clear h ac wo; intro ξ ac wo hφ h
  replace h : St w0 28 [(0, lv), (3, ξ 16), (4, (.int .i64 ((i : Nat) : Int)))] [.row (α := U Int) 57 (ξ 15) (out ++ [(⟨(gt l i).iv, (az (((gt l i).f).c0))⟩ : U Int)])] ac wo := (h.pick [0] (by decide)).sub ⟨rfl, rfl, rfl, trivial⟩
  rw [show ξ 16 = ξ 15 from hφ 16] at h
  generalize hsv15 : ξ 15 = sv4 at h; clear hsv15
  clear hφ ξ
  refine gz h <| gN <| gx hK7 <| gR <| g0 (af rfl) rfl <| g0 (bt rfl rfl (r := ((i + 1 : Nat) : Int)) (by rw [IntKind.wrap_i64]; first | omega | grind)) rfl <| g0 (ae rfl) rfl <| gx (fun _ _ => bo) ?_; clear h ac wo; intro ac wo h
  exact aC ⟨m1, (by omega), _, _, _, (by first | omega | grind), bA hL1 (show cq l out i = .go _ from (cT hc1)), (by first | omega | grind), (All.app zout (All.cons (All.gt zl (bW _)).1 All.nil)), (by first | omega | grind), (h.pick [0] (by decide)).sub ⟨rfl, rfl, rfl, trivial⟩⟩
 ·
  have hd1 := of_decide_eq_false hc1
  refine dK ?_
  have hx1 := dz hL1 (show cq l out i = .out (out, i) from (cF hc1))
  refine gz h <| gx hK3 <| gr fun K8 hK8 => g0 (af rfl) rfl <| g0 (ae rfl) rfl <| gn hK8 <| gT ?_; clear h ac wo; intro ac wo h
  have hd : a6 l = out := (ew (hX1.trans hx1))
  exact ret h rfl (.tmp rfl .nil) rfl (by rw [hd]; exact h.retR 0 rfl ⟨zout, (by first | omega | grind)⟩)
attribute [irreducible] a6
end Go.Sx
namespace Go.Sx
open Go Go.RowKit Go.Proofs
set_option maxRecDepth 100000
set_option maxHeartbeats 40000000
attribute [local irreducible] ao bU aj az bE aP aE aA dG cj aQ
def qK (x : List Int) (x8 : Nat) : Int :=
 0
def iH (x : List Int) (x8 : Nat) : Nx Nat Int :=
 bif (decide (((x8 : Nat) : Int) < ((x.length : Nat) : Int))) then
  bif ((gt x x8) != 0) then
   .ret (gt x x8)
  else
   .go (x8 + 1)
 else
  .out x8
def lW (x : List Int) : Int :=
 fin (bQ (fun s => iH x s) ((x.length - 0) + 1) 0) (fun s => qK x s) (fun r => r)
theorem qJ (x : List Int) (xv : Value) (w0 : World) (hxv : View w0 xv x) : Calls Tryz.prog 148 #[xv] w0 (eE w0 (.int .i64 (lW x)) (True)) := by
 refine enter (N := 18) (args := [xv]) Tryz.func148 rfl rfl ?_; intro ac h
 have hlenx := hxv.len
 refine d8 fun K1 hK1 => ?_
 refine rd0 h (ae rfl) rfl <| gn hK1 <| gr fun K2 hK2 => g0 (ae rfl) rfl <| gn hK2 <| gq fun K3 hK3 => gr fun K4 hK4 => g0 (af rfl) rfl <| g0 (dp uu256 rfl hxv.sl) rfl <| g0 (af rfl) rfl <| gn hK4 <| gB ?_; clear h ac; intro ac wo h
 obtain ⟨X1, hX1⟩ : ∃ X, bQ (fun s => iH x s) ((x.length - 0) + 1) 0 = X := ⟨_, rfl⟩
 refine wp_loop_ghost (fun n_ a_ w_ => ∃ (x8 : Nat), ((x.length - x8) < n_) ∧ (bQ (fun s => iH x s) n_ x8 = X1) ∧ (x8 ≤ x.length) ∧ St w0 18 [(3, (.int .i64 0)), (6, xv), (7, (.int .i64 ((x.length : Nat) : Int))), (8, (.int .i64 ((x8 : Nat) : Int)))] [] a_ w_) ((x.length - 0) + 1) ⟨0, (by omega), hX1, (by first | omega | grind), (h.sub ⟨rfl, rfl, rfl, rfl, trivial⟩)⟩ ?_
 clear h ac wo; rintro n1 ac wo ⟨x8, hm1, hL1, hx8, h⟩
 obtain ⟨m1, rfl⟩ : ∃ m, n1 = m + 1 := ⟨n1 - 1, by omega⟩
 refine gz h <| gr fun K5 hK5 => g0 (dk rfl rfl) rfl <| gn hK5 <| gq fun K6 hK6 => ?_; clear h ac wo; intro ac wo h
 refine dg h rfl (fun hc1 => ?_) (fun hc1 => ?_)
 ·
  have hd1 := of_decide_eq_true hc1
  refine gz h <| gS <| gx hK6 <| gq fun K7 hK7 => gB <| gr fun K8 hK8 => g0 (dh (i := x8) uu256 zz3 rfl rfl (hxv.nn (i := x8) (by first | omega | grind)) (by first | omega | grind)) rfl <| g0 (dX (k := 0) Tryz.isAgg3 zz3 hxv (bi (by first | omega | grind)) rfl (Nat.add_zero _) rfl rfl (v := (.int .i64 (gt x x8))) rfl) rfl <| g0 (ae rfl) rfl <| gn hK8 <| gr fun K9 hK9 => g0 (af rfl) rfl <| g0 (af rfl) rfl <| g0 (kJ rfl rfl) rfl <| gn hK9 ?_; clear h ac wo; intro ac wo h
  refine dg h rfl (fun hc2 => ?_) (fun hc2 => ?_)
  ·
   have hq2 := hc2; try simp at hq2
   refine gz h <| gr fun K10 hK10 => g0 (af rfl) rfl <| g0 (ae rfl) rfl <| gn hK10 <| gT ?_; clear h ac wo; intro ac wo h
   have hr1 := jl hL1 (show iH x x8 = .ret (gt x x8) from (Eq.trans (cT hc1) (cT hc2)))
   have hd : lW x = (gt x x8) := (pj (hX1.trans hr1))
   exact ret h rfl (.tmp rfl .nil) rfl (h.retP (by rw [hd] <;> rfl) trivial)
  ·
   have hq2 := hc2; try simp at hq2
   refine gz h <| gS <| gN <| gx hK7 <| gR <| g0 (bt rfl rfl (r := ((x8 + 1 : Nat) : Int)) (by rw [IntKind.wrap_i64]; first | omega | grind)) rfl <| g0 (af rfl) rfl <| gx (fun _ _ => bo) ?_; clear h ac wo; intro ac wo h
   exact aC ⟨m1, (by omega), _, (by first | omega | grind), bA hL1 (show iH x x8 = .go _ from (Eq.trans (cT hc1) (cF hc2))), (by first | omega | grind), (h.pick [] (by decide)).sub ⟨rfl, rfl, rfl, rfl, trivial⟩⟩
 ·
  have hd1 := of_decide_eq_false hc1
  refine dK ?_
  have hx1 := dz hL1 (show iH x x8 = .out x8 from (cF hc1))
  refine gz h <| gx hK3 <| gr fun K11 hK11 => g0 (af rfl) rfl <| g0 (ae rfl) rfl <| gn hK11 <| gT ?_; clear h ac wo; intro ac wo h
  have hd : lW x = 0 := (ew (hX1.trans hx1))
  exact ret h rfl (.tmp rfl .nil) rfl (h.retP (by rw [hd] <;> rfl) trivial)
attribute [irreducible] lW
end Go.Sx
