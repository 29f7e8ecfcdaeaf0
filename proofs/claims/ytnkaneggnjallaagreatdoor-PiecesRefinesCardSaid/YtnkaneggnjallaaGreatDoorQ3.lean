/- A part of the proof that the law PiecesRefines answers true at every input and leaves its arguments as they were. -/
import Derived.Test.YtnkaneggnjallaaGreatDoorQ1
set_option linter.unusedVariables false
set_option linter.unusedSimpArgs false
open Go.Proofs.Tryz renaming runUnderlying73 → uu73, runUnderlying24 → uu24, sizeOf87 → zz87, runUnderlying87 → uu87, sizeOf55 → zz55, runUnderlying55 → uu55, sizeOf53 → zz53, isAgg53 → aa53, runUnderlying112 → uu112, runUnderlying175 → uu175, sizeOf232 → zz232, runUnderlying232 → uu232, sizeOf4 → zz4, isAgg4 → aa4, sizeOf69 → zz69, isAgg69 → aa69, zeroValue232 → vv232, call35 → cc35
namespace Go.Sx
open Go Go.RowKit Go.Proofs
set_option maxRecDepth 100000
set_option maxHeartbeats 40000000
attribute [local irreducible] ao bU aj az bE aP aE aA dG cj aQ
theorem n9 : SlT Tryz.prog 175 232 32 360 [.bool false, .string ⟨#[]⟩, .bool false, .string ⟨#[]⟩, .bool false, .string ⟨#[]⟩, .bool false, .string ⟨#[]⟩, .bool false, .bool false, .string ⟨#[]⟩, .bool false, .string ⟨#[]⟩, .bool false, .string ⟨#[]⟩, .bool false, .string ⟨#[]⟩, .bool false, .bool false, .bool false, .bool false, .string ⟨#[]⟩, .bool false, .string ⟨#[]⟩, .bool false, .string ⟨#[]⟩, .bool false, .string ⟨#[]⟩, .bool false, .string ⟨#[]⟩, .bool false, .string ⟨#[]⟩] := ⟨Tryz.underlying175, Tryz.t232, _, Tryz.type232, rfl, rfl, rfl, rfl, rfl, by decide, by decide⟩
theorem jb (w : World) : (method (Tryz.prog.types.size + Made.depth) 73 (.agg #[]) "Equal").run Tryz.prog w = .ok (305, .agg #[]) w := jT (P := Tryz.prog) (T := 73) Tryz.type73 (by kernel_rfl) uu73 w
theorem iP (w : World) : (nilAhead (Tryz.prog.types.size + Made.depth) 73 (.agg #[]) "Equal").run Tryz.prog w = .ok (some false) w := kp (P := Tryz.prog) (T := 73) (f := 305) Tryz.type73 (by kernel_rfl) uu73 w
def fI (l : List (U Qd)) (more : List GR) (out : List GR) (i : Nat) : (List GR) :=
 out
def cc (l : List (U Qd)) (more : List GR) (out : List GR) (i : Nat) : Nx ((List GR) × Nat) (List GR) :=
 bif (decide (((i : Nat) : Int) < ((l.length : Nat) : Int))) then
  .go ((ak (ak out (((gt l i).iv).lo)) (((gt l i).iv).hi)), (i + 1))
 else
  .out (out, i)
def bD (l : List (U Qd)) (more : List GR) : (List GR) :=
 fin (bQ (fun s => cc l more s.1 s.2) ((l.length - 0) + 1) (more, 0)) (fun s => fI l more s.1 s.2) (fun r => r)
theorem ir (l : List (U Qd)) (lv : Value) (more : List GR) (morev : Value) (hl : l.length ≤ 100) (hm : more.length ≤ 100) (zl : All (i3 30) l) (zmore : All (SzR 30) more) (w0 w : World) (B : Asn) (hbel : Below w0.heap.size w0 w) (hsep : ∃ Z_, Sep w0.heap.size w [.row (α := GR) 53 morev more, B] Z_) (hlv : View w0 lv l) : Calls Tryz.prog 71 #[lv, morev] w (RetY w0 (fun v => All (SzR 30) (bD l more) ∧ (bD l more).length ≤ more.length + 2 * l.length) (fun v => [.row (α := GR) 53 v (bD l more), B])) := by
 refine jA (N := 30) (args := [lv, morev]) Tryz.func71 rfl rfl hbel hsep ?_; intro ac h
 have hlenl := hlv.len
 have hlenmore := h.len 0 rfl
 refine d8 fun K1 hK1 => ?_
 refine rd0 h (ae rfl) rfl <| gn hK1 <| gr fun K2 hK2 => g0 (af rfl) rfl <| g0 (ae rfl) rfl <| gn hK2 <| gq fun K3 hK3 => gr fun K4 hK4 => g0 (ae rfl) rfl <| gn hK4 <| gB ?_; clear h ac; intro ac wo h
 obtain ⟨X1, hX1⟩ : ∃ X, bQ (fun s => cc l more s.1 s.2) ((l.length - 0) + 1) (more, 0) = X := ⟨_, rfl⟩
 refine wp_loop_ghost (fun n_ a_ w_ => ∃ (out : List GR) (i : Nat) (outv : Value), ((l.length - i) < n_) ∧ (bQ (fun s => cc l more s.1 s.2) n_ (out, i) = X1) ∧ (i ≤ l.length) ∧ (All (SzR 30) out) ∧ (out.length ≤ more.length + 2 * i) ∧ St w0 30 [(0, lv), (5, outv), (6, (.int .i64 ((i : Nat) : Int)))] [.row (α := GR) 53 outv out, B] a_ w_) ((l.length - 0) + 1) ⟨more, 0, morev, (by omega), hX1, (by first | omega | assumption | grind), zmore, (by first | omega | assumption | grind), (h.sub ⟨rfl, rfl, rfl, trivial⟩)⟩ ?_
 clear h ac wo; rintro n1 ac wo ⟨out, i, outv, hm1, hL1, hi, zout, hol, h⟩
 obtain ⟨m1, rfl⟩ : ∃ m, n1 = m + 1 := ⟨n1 - 1, by omega⟩
 refine gz h <| gq fun K5 hK5 => gr fun K6 hK6 => g0 (af rfl) rfl <| g0 (af rfl) rfl <| g0 (dp uu24 rfl hlv.sl) rfl <| g0 (dk rfl rfl) rfl <| gn hK6 ?_; clear h ac wo; intro ac wo h
 refine dg h rfl (fun hc1 => ?_) (fun hc1 => ?_)
 ·
  have hd1 := of_decide_eq_true hc1
  refine dI ?_
  refine hK5 _ _ ?_
  refine di fun K7 hK7 => ?_
  refine eX ?_
  refine cb mixed [dv _, dv _, dv _, dv _, dv _, dv _, dv _, ⟨.nd (.con (All (SzR 30) (ak out (((gt l i).iv).lo)) ∧ (ak out (((gt l i).iv).lo)).length ≤ out.length + 1)), [0]⟩, dv _, dv _, dv _, dv _, dv _, dv _, ⟨.nd (.con (All (SzR 30) (ak (ak out (((gt l i).iv).lo)) (((gt l i).iv).hi)) ∧ (ak (ak out (((gt l i).iv).lo)) (((gt l i).iv).hi)).length ≤ (ak out (((gt l i).iv).lo)).length + 1)), [0]⟩, ⟨.nd (.two 15 14 fun a b => a = b), []⟩] [⟨.row (α := GR) 53 outv out, [(7, .one 7 fun v => .row (α := GR) 53 v (ak out (((gt l i).iv).lo))), (14, .one 14 fun v => .row (α := GR) 53 v (ak (ak out (((gt l i).iv).lo)) (((gt l i).iv).hi)))]⟩, ⟨_, []⟩] h rfl (by kernel_rfl) ⟨fun _ _ => om rfl, fun _ _ => om rfl, fun _ _ => om rfl, fun _ _ => aq (dh (i := i) uu24 zz87 rfl rfl (hlv.nn (i := i) (by first | omega | assumption | grind)) (by first | omega | assumption | grind)), fun _ _ => aq (fs uu87 rfl zz55 rfl (hlv.nn (i := 0) (by first | omega | assumption | grind)) rfl rfl (k' := i * 32 + 0)), fun _ _ => aq (fs uu55 rfl zz53 rfl (hlv.nn (i := 0) (by first | omega | assumption | grind)) rfl (by first | rfl | (simp only [Nat.add_assoc] <;> rfl)) (k' := i * 32 + 0)), fun _ _ => aq (dX (k := 0) aa53 zz53 hlv (bi (by first | omega | assumption | grind)) rfl rfl rfl rfl (v := (vR (((gt l i).iv).lo))) rfl), fun _ _ => iD (ψ := fun _ => All (SzR 30) (ak out (((gt l i).iv).lo)) ∧ (ak out (((gt l i).iv).lo)).length ≤ out.length + 1) (B := fun v => [.row (α := GR) 53 v (ak out (((gt l i).iv).lo))]) [.row (α := GR) 53 outv out] rfl (fun v _ => by simp only [dO, aX] <;> rfl) (fun v hv => hv) (kG (vs := [outv, (vR (((gt l i).iv).lo))]) (A := fun v => [.row (α := GR) 53 v (ak out (((gt l i).iv).lo))]) (c8 Tryz.call140 rfl) (fun w_ B_ hB_ hS_ => eF out outv (((gt l i).iv).lo) (by first | omega | assumption | grind) zout ((All.gt zl (bW _)).1).1 w0 w_ B_ hB_ hS_ )), fun _ _ => om rfl, fun _ _ => om rfl, fun _ _ => aq (dh (i := i) uu24 zz87 rfl rfl (hlv.nn (i := i) (by first | omega | assumption | grind)) (by first | omega | assumption | grind)), fun _ _ => aq (fs uu87 rfl zz55 rfl (hlv.nn (i := 0) (by first | omega | assumption | grind)) rfl rfl (k' := i * 32 + 0)), fun _ _ => aq (fs uu55 rfl zz53 rfl (hlv.nn (i := 0) (by first | omega | assumption | grind)) rfl (by first | rfl | (simp only [Nat.add_assoc] <;> rfl)) (k' := i * 32 + 9)), fun _ _ => aq (dX (k := 9) aa53 zz53 hlv (bi (by first | omega | assumption | grind)) rfl rfl rfl rfl (v := (vR (((gt l i).iv).hi))) rfl), (fun ξ hφ => by have of5_7 : All (SzR 30) (ak out (((gt l i).iv).lo)) ∧ (ak out (((gt l i).iv).lo)).length ≤ out.length + 1 := hφ 7 rfl; have pof5_7 := of5_7.2; exact iD (ψ := fun _ => All (SzR 30) (ak (ak out (((gt l i).iv).lo)) (((gt l i).iv).hi)) ∧ (ak (ak out (((gt l i).iv).lo)) (((gt l i).iv).hi)).length ≤ (ak out (((gt l i).iv).lo)).length + 1) (B := fun v => [.row (α := GR) 53 v (ak (ak out (((gt l i).iv).lo)) (((gt l i).iv).hi))]) [.row (α := GR) 53 (ξ 7) (ak out (((gt l i).iv).lo))] rfl (fun v _ => by simp only [dO, aX] <;> rfl) (fun v hv => hv) (kG (vs := [(ξ 7), (vR (((gt l i).iv).hi))]) (A := fun v => [.row (α := GR) 53 v (ak (ak out (((gt l i).iv).lo)) (((gt l i).iv).hi))]) (c8 Tryz.call140 rfl) (fun w_ B_ hB_ hS_ => eF (ak out (((gt l i).iv).lo)) (ξ 7) (((gt l i).iv).hi) (by first | omega | assumption | grind) of5_7.1 ((All.gt zl (bW _)).1).2 w0 w_ B_ hB_ hS_ ))), (fun ξ hφ => by have of5_7 : All (SzR 30) (ak out (((gt l i).iv).lo)) ∧ (ak out (((gt l i).iv).lo)).length ≤ out.length + 1 := hφ 7 rfl; have pof5_7 := of5_7.2; have of5_14 : All (SzR 30) (ak (ak out (((gt l i).iv).lo)) (((gt l i).iv).hi)) ∧ (ak (ak out (((gt l i).iv).lo)) (((gt l i).iv).hi)).length ≤ (ak out (((gt l i).iv).lo)).length + 1 := hφ 14 rfl; have pof5_14 := of5_14.2; exact o8 (φ := .two 15 14 fun a b => a = b) (v := ξ 14) [] rfl rfl (by show upd ξ 15 (ξ 14) 15 = upd ξ 15 (ξ 14) 14; rw [aX, fO (by decide)]) (ae rfl)), trivial⟩ ?_
  clear h ac wo; intro ξ ac wo hφ h
  replace h : St w0 30 [(0, lv), (5, ξ 15), (6, (.int .i64 ((i : Nat) : Int)))] [.row (α := GR) 53 (ξ 14) (ak (ak out (((gt l i).iv).lo)) (((gt l i).iv).hi)), B] ac wo := (h.pick [0, 1] (by decide)).sub ⟨rfl, rfl, rfl, trivial⟩
  have of5_7 : All (SzR 30) (ak out (((gt l i).iv).lo)) ∧ (ak out (((gt l i).iv).lo)).length ≤ out.length + 1 := hφ 7
  have pof5_7 := of5_7.2
  have of5_14 : All (SzR 30) (ak (ak out (((gt l i).iv).lo)) (((gt l i).iv).hi)) ∧ (ak (ak out (((gt l i).iv).lo)) (((gt l i).iv).hi)).length ≤ (ak out (((gt l i).iv).lo)).length + 1 := hφ 14
  have pof5_14 := of5_14.2
  rw [show ξ 15 = ξ 14 from hφ 15] at h
  generalize hsv14 : ξ 14 = sv1 at h; clear hsv14
  clear hφ ξ
  refine gz h <| gN <| gx hK7 <| gR <| g0 (af rfl) rfl <| g0 (bt rfl rfl (r := ((i + 1 : Nat) : Int)) (by rw [IntKind.wrap_i64]; first | omega | grind)) rfl <| g0 (ae rfl) rfl <| gx (fun _ _ => bo) ?_; clear h ac wo; intro ac wo h
  exact aC ⟨m1, (by omega), _, _, _, (by first | omega | assumption | grind), bA hL1 (show cc l more out i = .go _ from (cT hc1)), (by first | omega | assumption | grind), of5_14.1, (by first | omega | assumption | grind), (h.pick [0, 1] (by decide)).sub ⟨rfl, rfl, rfl, trivial⟩⟩
 ·
  have hd1 := of_decide_eq_false hc1
  refine dK ?_
  have hx1 := dz hL1 (show cc l more out i = .out (out, i) from (cF hc1))
  refine gz h <| gx hK3 <| gr fun K8 hK8 => g0 (af rfl) rfl <| g0 (ae rfl) rfl <| gn hK8 <| gT ?_; clear h ac wo; intro ac wo h
  have hd : bD l more = out := (ew (hX1.trans hx1))
  exact ret h rfl (.tmp rfl .nil) rfl ((h.pick [0, 1] (by decide)).retY (by rw [hd]; exact ⟨zout, (by first | omega | assumption | grind)⟩) (by rw [hd]; rfl))
attribute [irreducible] bD
def im (l : List (U Qd)) (ts : List GR) (out : List (At Qd)) (i : Nat) (i2 : Nat) (out2 : List (At Qd)) : (List (At Qd)) :=
 out2
def eJ (l : List (U Qd)) (ts : List GR) (out : List (At Qd)) (i : Nat) (i2 : Nat) (out2 : List (At Qd)) (k3 : Nat) (out3 : List (At Qd)) : Nx (Nat × (List (At Qd))) (List (At Qd)) :=
 .go ((i2 + 1), out3)
def bP (l : List (U Qd)) (ts : List GR) (out : List (At Qd)) (i : Nat) (i2 : Nat) (out2 : List (At Qd)) (k3 : Nat) (out3 : List (At Qd)) : Nx (Nat × (List (At Qd))) (List (At Qd)) :=
 bif (decide (((k3 : Nat) : Int) < ((l.length : Nat) : Int))) then
  bif (cm ((gt l k3).iv) ((gt out3 i2).frm) ((gt out3 i2).til) ((gt out3 i2).gap)) then
   .go ((k3 + 1), (out3.set i2 (⟨(gt out3 i2).frm, (gt out3 i2).til, (gt out3 i2).gap, true, (gt l k3).f⟩ : At Qd)))
  else
   .go ((k3 + 1), out3)
 else
  .out (k3, out3)
def bX (l : List (U Qd)) (ts : List GR) (out : List (At Qd)) (i : Nat) (i2 : Nat) (out2 : List (At Qd)) : Nx (Nat × (List (At Qd))) (List (At Qd)) :=
 bif (decide (((i2 : Nat) : Int) < ((out2.length : Nat) : Int))) then
  fin (bQ (fun s => bP l ts out i i2 out2 s.1 s.2) ((l.length - 0) + 1) (0, out2)) (fun s => eJ l ts out i i2 out2 s.1 s.2) (fun r => .ret r)
 else
  .out (i2, out2)
def eK (l : List (U Qd)) (ts : List GR) (out : List (At Qd)) (i : Nat) : (List (At Qd)) :=
 fin (bQ (fun s => bX l ts out i s.1 s.2) ((out.length - 0) + 1) (0, out)) (fun s => im l ts out i s.1 s.2) (fun r => r)
def br (l : List (U Qd)) (ts : List GR) (out : List (At Qd)) (i : Nat) : Nx ((List (At Qd)) × Nat) (List (At Qd)) :=
 bif (decide (((i : Nat) : Int) < ((ts.length : Nat) : Int))) then
  bif (decide (((i + 1 : Nat) : Int) < ((ts.length : Nat) : Int))) then
   .go (((out ++ [(⟨(gt ts i), (gt ts i), false, false, (⟨(⟨(⟨false, 0⟩ : GI), (⟨false, 0⟩ : GI)⟩ : GQ), (⟨(⟨false, 0⟩ : GI), (⟨false, 0⟩ : GI)⟩ : GQ), (⟨(⟨false, 0⟩ : GI), (⟨false, 0⟩ : GI)⟩ : GQ)⟩ : Qd)⟩ : At Qd)]) ++ [(⟨(gt ts i), (gt ts (i + 1)), true, false, (⟨(⟨(⟨false, 0⟩ : GI), (⟨false, 0⟩ : GI)⟩ : GQ), (⟨(⟨false, 0⟩ : GI), (⟨false, 0⟩ : GI)⟩ : GQ), (⟨(⟨false, 0⟩ : GI), (⟨false, 0⟩ : GI)⟩ : GQ)⟩ : Qd)⟩ : At Qd)]), (i + 1))
  else
   .go ((out ++ [(⟨(gt ts i), (gt ts i), false, false, (⟨(⟨(⟨false, 0⟩ : GI), (⟨false, 0⟩ : GI)⟩ : GQ), (⟨(⟨false, 0⟩ : GI), (⟨false, 0⟩ : GI)⟩ : GQ), (⟨(⟨false, 0⟩ : GI), (⟨false, 0⟩ : GI)⟩ : GQ)⟩ : Qd)⟩ : At Qd)]), (i + 1))
 else
  .out (out, i)
def bO (l : List (U Qd)) (ts : List GR) : (List (At Qd)) :=
 fin (bQ (fun s => br l ts s.1 s.2) ((ts.length - 0) + 1) ([], 0)) (fun s => eK l ts s.1 s.2) (fun r => r)
theorem fw (l : List (U Qd)) (lv : Value) (ts : List GR) (tsv : Value) (hl : l.length ≤ 1000) (ht : ts.length ≤ 1000) (zl : All (i3 30) l) (zts : All (SzR 30) ts) (w0 : World) (hlv : View w0 lv l) (htsv : View w0 tsv ts) : Calls Tryz.prog 109 #[lv, tsv] w0 (RetR w0 232 (bO l ts) (All (SzAD 30) (bO l ts) ∧ Alt (bO l ts) ∧ (bO l ts).length ≤ 2 * ts.length)) := by
 refine enter (N := 92) (args := [lv, tsv]) Tryz.func109 rfl rfl ?_; intro ac h
 have hlenl := hlv.len
 have hlents := htsv.len
 refine d8 fun K1 hK1 => ?_
 refine rd0 h (ae rfl) rfl <| gn hK1 <| gr fun K2 hK2 => g0 (ae rfl) rfl <| gn hK2 <| gq fun K3 hK3 => gr fun K4 hK4 => g0 (ae rfl) rfl <| gn hK4 <| gB ?_; clear h ac; intro ac wo h
 replace h := h.nilRow (α := At Qd) 232
 obtain ⟨X1, hX1⟩ : ∃ X, bQ (fun s => br l ts s.1 s.2) ((ts.length - 0) + 1) ([], 0) = X := ⟨_, rfl⟩
 refine wp_loop_ghost (fun n_ a_ w_ => ∃ (out : List (At Qd)) (i : Nat) (outv : Value), ((ts.length - i) < n_) ∧ (bQ (fun s => br l ts s.1 s.2) n_ (out, i) = X1) ∧ (i ≤ ts.length) ∧ (All (SzAD 30) out) ∧ (out.length = 2 * i ∨ (i = ts.length ∧ out.length + 1 = 2 * i)) ∧ (Alt out) ∧ St w0 92 [(0, lv), (1, tsv), (5, outv), (6, (.int .i64 ((i : Nat) : Int)))] [.row (α := At Qd) 232 outv out] a_ w_) ((ts.length - 0) + 1) ⟨[], 0, (.slice none 0 0), (by omega), hX1, (by first | omega | assumption | grind), All.nil, (Or.inl rfl), Alt.nil, (h.sub ⟨rfl, rfl, rfl, rfl, trivial⟩)⟩ ?_
 clear h ac wo; rintro n1 ac wo ⟨out, i, outv, hm1, hL1, hi, zout, hol, hal, h⟩
 obtain ⟨m1, rfl⟩ : ∃ m, n1 = m + 1 := ⟨n1 - 1, by omega⟩
 refine gz h <| gq fun K5 hK5 => gr fun K6 hK6 => g0 (af rfl) rfl <| g0 (af rfl) rfl <| g0 (dp uu112 rfl htsv.sl) rfl <| g0 (dk rfl rfl) rfl <| gn hK6 ?_; clear h ac wo; intro ac wo h
 refine dg h rfl (fun hc1 => ?_) (fun hc1 => ?_)
 ·
  have hd1 := of_decide_eq_true hc1
  refine dI ?_
  refine hK5 _ _ ?_
  refine di fun K7 hK7 => ?_
  refine eX ?_
  refine di fun K8 hK8 => ?_
  replace h := h.emps 1
  refine cb mixed [dv _, dv _, dv _, dv _, dv _, dv _, dv _, dv _, dv _, dv _, ⟨.nd (.one 10 fun v => NN v 1), [1]⟩, ⟨.nd (.con True), [0, 1]⟩, ⟨.nd (.two 12 11 fun a b => a = b), []⟩] [⟨.row (α := At Qd) 232 outv out, [(11, .one 11 fun v => .row (α := At Qd) 232 v (out ++ [(⟨(gt ts i), (gt ts i), false, false, oD⟩ : At Qd)]))]⟩, ⟨.emp, [(10, .one 10 fun v => .row (α := At Qd) 232 v ([(⟨(gt ts i), (gt ts i), false, false, oD⟩ : At Qd)]))]⟩] h rfl (by kernel_rfl) ⟨fun _ _ => om rfl, fun _ _ => om rfl, fun _ _ => om rfl, fun _ _ => aq (dh (i := i) uu112 zz53 rfl rfl (htsv.nn (i := i) (by first | omega | assumption | grind)) (by first | omega | assumption | grind)), fun _ _ => aq (dX (k := 0) aa53 zz53 htsv (bi (by first | omega | assumption | grind)) rfl (Nat.add_zero _) rfl rfl (v := (vR (gt ts i))) rfl), fun _ _ => om rfl, fun _ _ => om rfl, fun _ _ => aq (dh (i := i) uu112 zz53 rfl rfl (htsv.nn (i := i) (by first | omega | assumption | grind)) (by first | omega | assumption | grind)), fun _ _ => aq (dX (k := 0) aa53 zz53 htsv (bi (by first | omega | assumption | grind)) rfl (Nat.add_zero _) rfl rfl (v := (vR (gt ts i))) rfl), fun _ _ => aq (bG qT rfl rfl (v := (vAD (⟨(gt ts i), (gt ts i), false, false, oD⟩ : At Qd))) rfl), fun _ _ => iD (ψ := fun v => NN v 1) (B := fun v => [.row (α := At Qd) 232 v ([(⟨(gt ts i), (gt ts i), false, false, oD⟩ : At Qd)])]) [.emp] rfl (fun v _ => by simp only [dO, aX] <;> rfl) (fun v hv => by simpa [DF.one, aX] using hv) (gV (cn (α := At Qd) (xs := [.tmp 24]) (vs := [(vAD (⟨(gt ts i), (gt ts i), false, false, oD⟩ : At Qd))]) [(⟨(gt ts i), (gt ts i), false, false, oD⟩ : At Qd)] n9 rfl rfl rfl (by decide))), fun ξ hφ => iD (B := fun v => [.row (α := At Qd) 232 v (out ++ [(⟨(gt ts i), (gt ts i), false, false, oD⟩ : At Qd)]), .row (α := At Qd) 232 (ξ 10) ([(⟨(gt ts i), (gt ts i), false, false, oD⟩ : At Qd)])]) [.row (α := At Qd) 232 outv out, .row (α := At Qd) 232 (ξ 10) ([(⟨(gt ts i), (gt ts i), false, false, oD⟩ : At Qd)])] rfl (fun v _ => by simp only [dO, aX] <;> rfl) (fun _ _ => trivial) (d4 (xs := out) (ys := [(⟨(gt ts i), (gt ts i), false, false, oD⟩ : At Qd)]) n9 (fun w hs => (row_view hs 0 rfl)) rfl rfl (by first | omega | assumption | grind)), fun ξ hφ => o8 (φ := .two 12 11 fun a b => a = b) (v := ξ 11) [] rfl rfl (by show upd ξ 12 (ξ 11) 12 = upd ξ 12 (ξ 11) 11; rw [aX, fO (by decide)]) (ae rfl), trivial⟩ ?_
  clear h ac wo; intro ξ ac wo hφ h
  replace h : St w0 92 [(0, lv), (1, tsv), (5, ξ 12), (6, (.int .i64 ((i : Nat) : Int)))] [.row (α := At Qd) 232 (ξ 11) (out ++ [(⟨(gt ts i), (gt ts i), false, false, oD⟩ : At Qd)])] ac wo := (h.pick [0] (by decide)).sub ⟨rfl, rfl, rfl, rfl, trivial⟩
  rw [show ξ 12 = ξ 11 from hφ 12] at h
  generalize hsv11 : ξ 11 = sv2 at h; clear hsv11
  clear hφ ξ
  refine gz h <| gx hK8 <| gr fun K9 hK9 => g0 (af rfl) rfl <| g0 (bt rfl rfl (r := ((i + 1 : Nat) : Int)) (by rw [IntKind.wrap_i64]; first | omega | grind)) rfl <| g0 (af rfl) rfl <| g0 (dp uu112 rfl htsv.sl) rfl <| g0 (dk rfl rfl) rfl <| gn hK9 ?_; clear h ac wo; intro ac wo h
  refine dg h rfl (fun hc2 => ?_) (fun hc2 => ?_)
  ·
   have hd2 := of_decide_eq_true hc2
   replace h := h.emps 1
   refine cb mixed [dv _, dv _, dv _, dv _, dv _, dv _, dv _, dv _, dv _, dv _, dv _, ⟨.nd (.one 11 fun v => NN v 1), [1]⟩, ⟨.nd (.con True), [0, 1]⟩, ⟨.nd (.two 13 12 fun a b => a = b), []⟩] [⟨.row (α := At Qd) 232 sv2 (out ++ [(⟨(gt ts i), (gt ts i), false, false, oD⟩ : At Qd)]), [(12, .one 12 fun v => .row (α := At Qd) 232 v ((out ++ [(⟨(gt ts i), (gt ts i), false, false, oD⟩ : At Qd)]) ++ [(⟨(gt ts i), (gt ts (i + 1)), true, false, oD⟩ : At Qd)]))]⟩, ⟨.emp, [(11, .one 11 fun v => .row (α := At Qd) 232 v ([(⟨(gt ts i), (gt ts (i + 1)), true, false, oD⟩ : At Qd)]))]⟩] h rfl (by kernel_rfl) ⟨fun _ _ => om rfl, fun _ _ => om rfl, fun _ _ => om rfl, fun _ _ => aq (dh (i := i) uu112 zz53 rfl rfl (htsv.nn (i := i) (by first | omega | assumption | grind)) (by first | omega | assumption | grind)), fun _ _ => aq (dX (k := 0) aa53 zz53 htsv (bi (by first | omega | assumption | grind)) rfl (Nat.add_zero _) rfl rfl (v := (vR (gt ts i))) rfl), fun _ _ => om rfl, fun _ _ => om rfl, fun _ _ => aq (bt rfl rfl (r := ((i + 1 : Nat) : Int)) (by rw [IntKind.wrap_i64]; first | omega | grind)), fun _ _ => aq (dh (i := (i + 1)) uu112 zz53 rfl rfl (htsv.nn (i := (i + 1)) (by first | omega | assumption | grind)) (by first | omega | assumption | grind)), fun _ _ => aq (dX (k := 0) aa53 zz53 htsv (bi (by first | omega | assumption | grind)) rfl (Nat.add_zero _) rfl rfl (v := (vR (gt ts (i + 1)))) rfl), fun _ _ => aq (bG qT rfl rfl (v := (vAD (⟨(gt ts i), (gt ts (i + 1)), true, false, oD⟩ : At Qd))) rfl), fun _ _ => iD (ψ := fun v => NN v 1) (B := fun v => [.row (α := At Qd) 232 v ([(⟨(gt ts i), (gt ts (i + 1)), true, false, oD⟩ : At Qd)])]) [.emp] rfl (fun v _ => by simp only [dO, aX] <;> rfl) (fun v hv => by simpa [DF.one, aX] using hv) (gV (cn (α := At Qd) (xs := [.tmp 42]) (vs := [(vAD (⟨(gt ts i), (gt ts (i + 1)), true, false, oD⟩ : At Qd))]) [(⟨(gt ts i), (gt ts (i + 1)), true, false, oD⟩ : At Qd)] n9 rfl rfl rfl (by decide))), fun ξ hφ => iD (B := fun v => [.row (α := At Qd) 232 v ((out ++ [(⟨(gt ts i), (gt ts i), false, false, oD⟩ : At Qd)]) ++ [(⟨(gt ts i), (gt ts (i + 1)), true, false, oD⟩ : At Qd)]), .row (α := At Qd) 232 (ξ 11) ([(⟨(gt ts i), (gt ts (i + 1)), true, false, oD⟩ : At Qd)])]) [.row (α := At Qd) 232 sv2 (out ++ [(⟨(gt ts i), (gt ts i), false, false, oD⟩ : At Qd)]), .row (α := At Qd) 232 (ξ 11) ([(⟨(gt ts i), (gt ts (i + 1)), true, false, oD⟩ : At Qd)])] rfl (fun v _ => by simp only [dO, aX] <;> rfl) (fun _ _ => trivial) (d4 (xs := (out ++ [(⟨(gt ts i), (gt ts i), false, false, oD⟩ : At Qd)])) (ys := [(⟨(gt ts i), (gt ts (i + 1)), true, false, oD⟩ : At Qd)]) n9 (fun w hs => (row_view hs 0 rfl)) rfl rfl (by first | omega | assumption | grind)), fun ξ hφ => o8 (φ := .two 13 12 fun a b => a = b) (v := ξ 12) [] rfl rfl (by show upd ξ 13 (ξ 12) 13 = upd ξ 13 (ξ 12) 12; rw [aX, fO (by decide)]) (ae rfl), trivial⟩ ?_
   clear h ac wo; intro ξ ac wo hφ h
   replace h : St w0 92 [(0, lv), (1, tsv), (5, ξ 13), (6, (.int .i64 ((i : Nat) : Int)))] [.row (α := At Qd) 232 (ξ 12) ((out ++ [(⟨(gt ts i), (gt ts i), false, false, oD⟩ : At Qd)]) ++ [(⟨(gt ts i), (gt ts (i + 1)), true, false, oD⟩ : At Qd)])] ac wo := (h.pick [0] (by decide)).sub ⟨rfl, rfl, rfl, rfl, trivial⟩
   rw [show ξ 13 = ξ 12 from hφ 13] at h
   generalize hsv12 : ξ 12 = sv3 at h; clear hsv12
   clear hφ ξ
   refine gz h <| gN <| gx hK7 <| gR <| g0 (af rfl) rfl <| g0 (bt rfl rfl (r := ((i + 1 : Nat) : Int)) (by rw [IntKind.wrap_i64]; first | omega | grind)) rfl <| g0 (ae rfl) rfl <| gx (fun _ _ => bo) ?_; clear h ac wo; intro ac wo h
   have hnl : ¬ (i = ts.length) := by omega
   exact aC ⟨m1, (by omega), _, _, _, (by first | omega | assumption | grind), bA hL1 (show br l ts out i = .go _ from (Eq.trans (cT hc1) (cT hc2))), (by first | omega | assumption | grind), (All.app (All.app zout (All.cons ⟨(All.gt zts (ip _)), (All.gt zts (ip _)), ⟨⟨(cB 0 (by decide) (by omega)), (cB 0 (by decide) (by omega))⟩, ⟨(cB 0 (by decide) (by omega)), (cB 0 (by decide) (by omega))⟩, ⟨(cB 0 (by decide) (by omega)), (cB 0 (by decide) (by omega))⟩⟩⟩ All.nil)) (All.cons ⟨(All.gt zts (ip _)), (All.gt zts (ip _)), ⟨⟨(cB 0 (by decide) (by omega)), (cB 0 (by decide) (by omega))⟩, ⟨(cB 0 (by decide) (by omega)), (cB 0 (by decide) (by omega))⟩, ⟨(cB 0 (by decide) (by omega)), (cB 0 (by decide) (by omega))⟩⟩⟩ All.nil)), (by simp; omega), (by first | exact (hal.snoc (by simp; omega)).snoc (by simp; omega) | exact hal.snoc (by simp; omega)), (h.pick [0] (by decide)).sub ⟨rfl, rfl, rfl, rfl, trivial⟩⟩
  ·
   have hd2 := of_decide_eq_false hc2
   refine gz h <| gS <| gN <| gx hK7 <| gR <| g0 (af rfl) rfl <| g0 (bt rfl rfl (r := ((i + 1 : Nat) : Int)) (by rw [IntKind.wrap_i64]; first | omega | grind)) rfl <| g0 (ae rfl) rfl <| gx (fun _ _ => bo) ?_; clear h ac wo; intro ac wo h
   have hnl : ¬ (i = ts.length) := by omega
   exact aC ⟨m1, (by omega), _, _, _, (by first | omega | assumption | grind), bA hL1 (show br l ts out i = .go _ from (Eq.trans (cT hc1) (cF hc2))), (by first | omega | assumption | grind), (All.app zout (All.cons ⟨(All.gt zts (ip _)), (All.gt zts (ip _)), ⟨⟨(cB 0 (by decide) (by omega)), (cB 0 (by decide) (by omega))⟩, ⟨(cB 0 (by decide) (by omega)), (cB 0 (by decide) (by omega))⟩, ⟨(cB 0 (by decide) (by omega)), (cB 0 (by decide) (by omega))⟩⟩⟩ All.nil)), (by simp; omega), (by first | exact (hal.snoc (by simp; omega)).snoc (by simp; omega) | exact hal.snoc (by simp; omega)), (h.pick [0] (by decide)).sub ⟨rfl, rfl, rfl, rfl, trivial⟩⟩
 ·
  have hd1 := of_decide_eq_false hc1
  refine dK ?_
  have hx1 := dz hL1 (show br l ts out i = .out (out, i) from (cF hc1))
  refine gz h <| gx hK3 <| gq fun K10 hK10 => gr fun K11 hK11 => g0 (ae rfl) rfl <| gn hK11 <| gB ?_; clear h ac wo; intro ac wo h
  obtain ⟨X2, hX2⟩ : ∃ X, bQ (fun s => bX l ts out i s.1 s.2) ((out.length - 0) + 1) (0, out) = X := ⟨_, rfl⟩
  refine wp_loop_ghost (fun n_ a_ w_ => ∃ (i2 : Nat) (out2 : List (At Qd)), ((out2.length - i2) < n_) ∧ (bQ (fun s => bX l ts out i s.1 s.2) n_ (i2, out2) = X2) ∧ (i2 ≤ out2.length) ∧ (All (SzAD 30) out2) ∧ (Alt out2) ∧ (out2.length ≤ 2 * ts.length) ∧ St w0 92 [(0, lv), (5, outv), (7, (.int .i64 ((i2 : Nat) : Int)))] [.row (α := At Qd) 232 outv out2] a_ w_) ((out.length - 0) + 1) ⟨0, out, (by omega), hX2, (by first | omega | assumption | grind), zout, hal, (by first | omega | assumption | grind), (h.sub ⟨rfl, rfl, rfl, trivial⟩)⟩ ?_
  clear h ac wo; rintro n2 ac wo ⟨i2, out2, hm2, hL2, hi2, zout2, hal2, hle2, h⟩
  obtain ⟨m2, rfl⟩ : ∃ m, n2 = m + 1 := ⟨n2 - 1, by omega⟩
  refine gz h <| gq fun K12 hK12 => gr fun K13 hK13 => g0 (af rfl) rfl <| g0 (af rfl) rfl ?_; clear h ac wo; intro ac wo h
  refine rd0 h (dp uu175 rfl (h.row_sl 0 rfl)) rfl <| g0 (dk rfl rfl) rfl <| gn hK13 ?_; clear h ac wo; intro ac wo h
  refine dg h rfl (fun hc3 => ?_) (fun hc3 => ?_)
  ·
   have hd3 := of_decide_eq_true hc3
   refine gz h <| gS <| gx hK12 <| gq fun K14 hK14 => gB <| gr fun K15 hK15 => g0 (ae rfl) rfl <| gn hK15 <| gB ?_; clear h ac wo; intro ac wo h
   obtain ⟨X3, hX3⟩ : ∃ X, bQ (fun s => bP l ts out i i2 out2 s.1 s.2) ((l.length - 0) + 1) (0, out2) = X := ⟨_, rfl⟩
   refine wp_loop_ghost (fun n_ a_ w_ => ∃ (k3 : Nat) (out3 : List (At Qd)), ((l.length - k3) < n_) ∧ (bQ (fun s => bP l ts out i i2 out2 s.1 s.2) n_ (k3, out3) = X3) ∧ (k3 ≤ l.length) ∧ (All (SzAD 30) out3) ∧ (out3.length = out2.length) ∧ (Alt out3) ∧ St w0 92 [(0, lv), (5, outv), (7, (.int .i64 ((i2 : Nat) : Int))), (8, (.int .i64 ((k3 : Nat) : Int)))] [.row (α := At Qd) 232 outv out3] a_ w_) ((l.length - 0) + 1) ⟨0, out2, (by omega), hX3, (by first | omega | assumption | grind), zout2, rfl, hal2, (h.sub ⟨rfl, rfl, rfl, rfl, trivial⟩)⟩ ?_
   clear h ac wo; rintro n3 ac wo ⟨k3, out3, hm3, hL3, hk3, zout3, hl3, hal3, h⟩
   obtain ⟨m3, rfl⟩ : ∃ m, n3 = m + 1 := ⟨n3 - 1, by omega⟩
   refine gz h <| gq fun K16 hK16 => gr fun K17 hK17 => g0 (af rfl) rfl <| g0 (af rfl) rfl <| g0 (dp uu24 rfl hlv.sl) rfl <| g0 (dk rfl rfl) rfl <| gn hK17 ?_; clear h ac wo; intro ac wo h
   refine dg h rfl (fun hc4 => ?_) (fun hc4 => ?_)
   ·
    have hd4 := of_decide_eq_true hc4
    refine dI ?_
    refine hK16 _ _ ?_
    refine di fun K18 hK18 => ?_
    refine eX ?_
    refine di fun K19 hK19 => ?_
    refine cb mixed [dv _, dv _, dv _, dv _, dv _, dv _, dv _, dv _, dv _, dw _ [0], dv _, dv _, dv _, dv _, dw _ [0], dv _, dv _, dv _, dv _, dw _ [0], dv _] [⟨_, []⟩] h rfl (by kernel_rfl) ⟨fun _ _ => om rfl, fun _ _ => om rfl, fun _ _ => aq (dh (i := k3) uu24 zz87 rfl rfl (hlv.nn (i := k3) (by first | omega | assumption | grind)) (by first | omega | assumption | grind)), fun _ _ => aq (fs uu87 rfl zz55 rfl (hlv.nn (i := 0) (by first | omega | assumption | grind)) rfl rfl (k' := k3 * 32 + 0)), fun _ _ => aq (dX (k := 0) Tryz.isAgg55 zz55 hlv (bi (by first | omega | assumption | grind)) rfl rfl rfl rfl (v := (vV ((gt l k3).iv))) rfl), fun _ _ => om rfl, fun _ _ => om rfl, fun _ _ => aq (dh (i := i2) uu175 zz232 rfl rfl (h.row_nn 0 rfl (by first | omega | assumption | grind)) (by first | omega | assumption | grind)), fun _ _ => aq (fs uu232 rfl zz53 rfl (h.row_nn 0 rfl (by first | omega | assumption | grind)) rfl rfl (k' := i2 * 32 + 0)), fun _ _ => cp _ rfl rfl (dA (k := 0) aa53 zz53 (bi (by first | omega | assumption | grind)) rfl rfl rfl rfl (v := (vR ((gt out3 i2).frm))) rfl), fun _ _ => om rfl, fun _ _ => om rfl, fun _ _ => aq (dh (i := i2) uu175 zz232 rfl rfl (h.row_nn 0 rfl (by first | omega | assumption | grind)) (by first | omega | assumption | grind)), fun _ _ => aq (fs uu232 rfl zz53 rfl (h.row_nn 0 rfl (by first | omega | assumption | grind)) rfl rfl (k' := i2 * 32 + 9)), fun _ _ => cp _ rfl rfl (dA (k := 9) aa53 zz53 (bi (by first | omega | assumption | grind)) rfl rfl rfl rfl (v := (vR ((gt out3 i2).til))) rfl), fun _ _ => om rfl, fun _ _ => om rfl, fun _ _ => aq (dh (i := i2) uu175 zz232 rfl rfl (h.row_nn 0 rfl (by first | omega | assumption | grind)) (by first | omega | assumption | grind)), fun _ _ => aq (fs uu232 rfl zz4 rfl (h.row_nn 0 rfl (by first | omega | assumption | grind)) rfl rfl (k' := i2 * 32 + 18)), fun _ _ => cp _ rfl rfl (dA (k := 18) aa4 zz4 (bi (by first | omega | assumption | grind)) rfl rfl rfl rfl (v := (.bool ((gt out3 i2).gap))) rfl), fun _ _ => eg (ec (c8 Tryz.call94 rfl) (kk (gw ((gt l k3).iv) ((gt out3 i2).frm) ((gt out3 i2).til) ((gt out3 i2).gap) (All.gt zl (bW _)).1 (All.gt zout3 (ex _)).1 (All.gt zout3 (ex _)).2.1))), trivial⟩ ?_
    clear h ac wo; intro ξ ac wo hφ h
    replace h : St w0 92 [(0, lv), (5, outv), (7, (.int .i64 ((i2 : Nat) : Int))), (8, (.int .i64 ((k3 : Nat) : Int))), (77, (.bool (cm ((gt l k3).iv) ((gt out3 i2).frm) ((gt out3 i2).til) ((gt out3 i2).gap))))] [.row (α := At Qd) 232 outv out3] ac wo := (h.pick [0] (by decide)).sub ⟨rfl, rfl, rfl, rfl, rfl, trivial⟩
    clear hφ ξ
    refine hK19 _ _ ?_
    refine dg h rfl (fun hc5 => ?_) (fun hc5 => ?_)
    ·
     have hq5 := hc5; try simp at hq5
     refine gz h <| gR <| g0 (af rfl) rfl <| g0 (af rfl) rfl <| g0 (af rfl) rfl <| g0 (af rfl) rfl <| g0 (af rfl) rfl <| g0 (af rfl) rfl <| g0 (dh (i := k3) uu24 zz87 rfl rfl (hlv.nn (i := k3) (by first | omega | assumption | grind)) (by first | omega | assumption | grind)) rfl <| g0 (fs uu87 rfl zz69 rfl (hlv.nn (i := 0) (by first | omega | assumption | grind)) rfl rfl (k' := k3 * 32 + 20)) rfl <| g0 (dX (k := 20) aa69 zz69 hlv (bi (by first | omega | assumption | grind)) rfl rfl rfl rfl (v := (vD ((gt l k3).f))) rfl) rfl ?_; clear h ac wo; intro ac wo h
     refine rd0 h (dh (i := i2) uu175 zz232 rfl rfl (h.row_nn 0 rfl (by first | omega | assumption | grind)) (by first | omega | assumption | grind)) rfl ?_; clear h ac wo; intro ac wo h
     refine rd0 h (fs uu232 rfl zz4 rfl (h.row_nn 0 rfl (by first | omega | assumption | grind)) rfl rfl (k' := i2 * 32 + 19)) rfl ?_; clear h ac wo; intro ac wo h
     refine up h 0 rfl (fc (k := 19) (u' := (⟨(gt out3 i2).frm, (gt out3 i2).til, (gt out3 i2).gap, true, (gt out3 i2).f⟩ : At Qd)) zz4 (bi (by first | omega | assumption | grind)) rfl rfl rfl rfl rfl rfl rfl rfl) ?_; clear h ac wo; intro ac wo h
     refine rd0 h (dh (i := i2) uu175 zz232 rfl rfl (h.row_nn 0 rfl (by first | omega | assumption | grind)) (by first | omega | assumption | grind)) rfl ?_; clear h ac wo; intro ac wo h
     refine rd0 h (fs uu232 rfl zz69 rfl (h.row_nn 0 rfl (by first | omega | assumption | grind)) rfl rfl (k' := i2 * 32 + 20)) rfl ?_; clear h ac wo; intro ac wo h
     refine up h 0 rfl (fc (k := 20) (u' := (⟨(gt out3 i2).frm, (gt out3 i2).til, (gt out3 i2).gap, true, (gt l k3).f⟩ : At Qd)) zz69 (iE (by first | omega | assumption | grind)) rfl rfl rfl rfl rfl rfl rfl rfl) ?_; clear h ac wo; intro ac wo h
     replace h := h.rowEq 0 rfl (by rw [List.set_set] : _ = (out3.set i2 (⟨(gt out3 i2).frm, (gt out3 i2).til, (gt out3 i2).gap, true, (gt l k3).f⟩ : At Qd)))
     refine gz h <| gx (fun _ _ => bo) <| gN <| gx hK18 <| gR <| g0 (af rfl) rfl <| g0 (bt rfl rfl (r := ((k3 + 1 : Nat) : Int)) (by rw [IntKind.wrap_i64]; first | omega | grind)) rfl <| g0 (ae rfl) rfl <| gx (fun _ _ => bo) ?_; clear h ac wo; intro ac wo h
     replace h := h.sub (F' := [(0, lv), (5, outv), (7, (.int .i64 ((i2 : Nat) : Int))), (8, (.int .i64 ((k3 + 1 : Nat) : Int)))]) ⟨rfl, rfl, rfl, rfl, trivial⟩
     exact aC ⟨m3, (by omega), _, _, (by first | omega | assumption | grind), bA hL3 (show bP l ts out i i2 out2 k3 out3 = .go _ from (Eq.trans (cT hc4) (cT hc5))), (by first | omega | assumption | grind), (All.set zout3 ⟨(All.gt zout3 (ex _)).1, (All.gt zout3 (ex _)).2.1, (All.gt zl (bW _)).2⟩), (by first | exact hl3 | (simp; exact hl3)), (by first | exact hal3.set rfl | exact hal3), (h.pick [0] (by decide)).sub ⟨rfl, rfl, rfl, rfl, trivial⟩⟩
    ·
     have hq5 := hc5; try simp at hq5
     refine gz h <| gS <| gN <| gx hK18 <| gR <| g0 (af rfl) rfl <| g0 (bt rfl rfl (r := ((k3 + 1 : Nat) : Int)) (by rw [IntKind.wrap_i64]; first | omega | grind)) rfl <| g0 (ae rfl) rfl <| gx (fun _ _ => bo) ?_; clear h ac wo; intro ac wo h
     exact aC ⟨m3, (by omega), _, _, (by first | omega | assumption | grind), bA hL3 (show bP l ts out i i2 out2 k3 out3 = .go _ from (Eq.trans (cT hc4) (cF hc5))), (by first | omega | assumption | grind), zout3, (by first | exact hl3 | (simp; exact hl3)), (by first | exact hal3.set rfl | exact hal3), (h.pick [0] (by decide)).sub ⟨rfl, rfl, rfl, rfl, trivial⟩⟩
   ·
    have hd4 := of_decide_eq_false hc4
    refine dK ?_
    have hx3 := dz hL3 (show bP l ts out i i2 out2 k3 out3 = .out (k3, out3) from (cF hc4))
    refine gz h <| gx hK14 <| gR <| g0 (af rfl) rfl <| g0 (bt rfl rfl (r := ((i2 + 1 : Nat) : Int)) (by rw [IntKind.wrap_i64]; first | omega | grind)) rfl <| g0 (ae rfl) rfl <| gx (fun _ _ => bo) ?_; clear h ac wo; intro ac wo h
    exact aC ⟨m2, (by omega), _, _, (by first | omega | assumption | grind), bA hL2 (show bX l ts out i i2 out2 = .go _ from (Eq.trans (cT hc3) (ew (hX3.trans hx3)))), (by first | omega | assumption | grind), zout3, hal3, (by first | omega | assumption | grind), (h.pick [0] (by decide)).sub ⟨rfl, rfl, rfl, trivial⟩⟩
  ·
   have hd3 := of_decide_eq_false hc3
   refine dK ?_
   have hx2 := dz hL2 (show bX l ts out i i2 out2 = .out (i2, out2) from (cF hc3))
   refine gz h <| gx hK10 <| gr fun K20 hK20 => g0 (af rfl) rfl <| g0 (ae rfl) rfl <| gn hK20 <| gT ?_; clear h ac wo; intro ac wo h
   have hd : bO l ts = out2 := (Eq.trans (ew (hX1.trans hx1)) (ew (hX2.trans hx2)))
   exact ret h rfl (.tmp rfl .nil) rfl (by rw [hd]; exact h.retR 0 rfl ⟨zout2, ⟨hal2, by omega⟩⟩)
attribute [irreducible] bO
end Go.Sx
namespace Go.Sx
open Go Go.RowKit Go.Proofs
set_option maxRecDepth 100000
set_option maxHeartbeats 40000000
attribute [local irreducible] ao bU aj az bE aP aE aA dG cj aQ
theorem gX (w : World) : (method (Tryz.prog.types.size + Made.depth) 73 (.agg #[]) "Reduce").run Tryz.prog w = .ok (36, .agg #[]) w := jT (P := Tryz.prog) (T := 73) Tryz.type73 (by kernel_rfl) uu73 w
theorem eV (w : World) : (method (Tryz.prog.types.size + Made.depth) 73 (.agg #[]) "Same").run Tryz.prog w = .ok (35, .agg #[]) w := jT (P := Tryz.prog) (T := 73) Tryz.type73 (by kernel_rfl) uu73 w
theorem eS (w : World) : (nilAhead (Tryz.prog.types.size + Made.depth) 73 (.agg #[]) "Same").run Tryz.prog w = .ok (some false) w := kp (P := Tryz.prog) (T := 73) (f := 35) Tryz.type73 (by kernel_rfl) uu73 w
def il (l : List (At Qd)) (out : List (U Qd)) (i : Nat) : (List (U Qd)) :=
 out
def a7 (l : List (At Qd)) (out : List (U Qd)) (i : Nat) : Nx ((List (U Qd)) × Nat) (List (U Qd)) :=
 bif (decide (((i : Nat) : Int) < ((l.length : Nat) : Int))) then
  bif (gt l i).gap then
   bif (!(gt l i).has) then
    .go (out, (i + 1))
   else
    bif (((((decide (((i : Nat) : Int) ≥ 2)) && (gt l (i - 2)).has) && (gt l (i - 1)).has) && (aK ((gt l (i - 2)).f) ((gt l (i - 1)).f) ((gt l i).frm))) && (cg ((gt l (i - 2)).f) ((gt l i).f))) then
     .go ((out.set (out.length - 1) (⟨(⟨((gt out (out.length - 1)).iv).lo, (gt l i).til, ((gt out (out.length - 1)).iv).openLo, true⟩ : Iv), (gt out (out.length - 1)).f⟩ : U Qd)), (i + 1))
    else
     .go ((out ++ [(⟨(⟨(gt l i).frm, (gt l i).til, (!(((gt l (i - 1)).has && (aK ((gt l i).f) ((gt l (i - 1)).f) ((gt l i).frm))) && (!(((decide (((i : Nat) : Int) ≥ 2)) && (gt l (i - 2)).has) && (aK ((gt l (i - 2)).f) ((gt l (i - 1)).f) ((gt l i).frm)))))), true⟩ : Iv), (gt l i).f⟩ : U Qd)]), (i + 1))
  else
   bif (!(gt l i).has) then
    .go (out, (i + 1))
   else
    bif (((decide (((i : Nat) : Int) > 0)) && (gt l (i - 1)).has) && (aK ((gt l (i - 1)).f) ((gt l i).f) ((gt l i).frm))) then
     .go ((out.set (out.length - 1) (⟨(⟨((gt out (out.length - 1)).iv).lo, ((gt out (out.length - 1)).iv).hi, ((gt out (out.length - 1)).iv).openLo, false⟩ : Iv), (gt out (out.length - 1)).f⟩ : U Qd)), (i + 1))
    else
     bif (((decide (((i + 1 : Nat) : Int) < ((l.length : Nat) : Int))) && (gt l (i + 1)).has) && (aK ((gt l (i + 1)).f) ((gt l i).f) ((gt l i).frm))) then
      .go (out, (i + 1))
     else
      .go ((out ++ [(⟨(⟨(gt l i).frm, (gt l i).til, false, false⟩ : Iv), (aG ((gt l i).f) ((gt l i).frm))⟩ : U Qd)]), (i + 1))
 else
  .out (out, i)
def cC (l : List (At Qd)) : (List (U Qd)) :=
 fin (bQ (fun s => a7 l s.1 s.2) ((l.length - 0) + 1) ([], 0)) (fun s => il l s.1 s.2) (fun r => r)
theorem fv (l : List (At Qd)) (lv : Value) (hl : l.length ≤ 1000) (halt : Alt l) (zl : All (SzAD 30) l) (w0 : World) (hlv : View w0 lv l) : Calls Tryz.prog 108 #[(.iface 73 (.agg #[])), lv] w0 (RetR w0 87 (cC l) (All (i3 20) (cC l) ∧ (cC l).length ≤ l.length)) := by
 refine enter (N := 233) (args := [(.iface 73 (.agg #[])), lv]) Tryz.func108 rfl rfl ?_; intro ac h
 have hlenl := hlv.len
 refine d8 fun K1 hK1 => ?_
 refine rd0 h (ae rfl) rfl <| gn hK1 <| gr fun K2 hK2 => g0 (ae rfl) rfl <| gn hK2 <| gq fun K3 hK3 => gr fun K4 hK4 => g0 (ae rfl) rfl <| gn hK4 <| gB ?_; clear h ac; intro ac wo h
 replace h := h.nilRow (α := U Qd) 87
 obtain ⟨X1, hX1⟩ : ∃ X, bQ (fun s => a7 l s.1 s.2) ((l.length - 0) + 1) ([], 0) = X := ⟨_, rfl⟩
 refine wp_loop_ghost (fun n_ a_ w_ => ∃ (out : List (U Qd)) (i : Nat) (outv : Value), ((l.length - i) < n_) ∧ (bQ (fun s => a7 l s.1 s.2) n_ (out, i) = X1) ∧ (i ≤ l.length) ∧ (All (i3 20) out) ∧ (out.length ≤ i) ∧ (∀ j, j < i → (gt l j).gap = true → (gt l j).has = true → 0 < out.length) ∧ St w0 233 [(0, (.iface 73 (.agg #[]))), (1, lv), (5, outv), (6, (.int .i64 ((i : Nat) : Int)))] [.row (α := U Qd) 87 outv out] a_ w_) ((l.length - 0) + 1) ⟨[], 0, (.slice none 0 0), (by omega), hX1, (by first | omega | assumption | grind), All.nil, (by first | omega | assumption | grind), (fun j hj => absurd hj (Nat.not_lt_zero j)), (h.sub ⟨rfl, rfl, rfl, rfl, trivial⟩)⟩ ?_
 clear h ac wo; rintro n1 ac wo ⟨out, i, outv, hm1, hL1, hi, zout, hol, hne, h⟩
 obtain ⟨m1, rfl⟩ : ∃ m, n1 = m + 1 := ⟨n1 - 1, by omega⟩
 refine gz h <| gq fun K5 hK5 => gr fun K6 hK6 => g0 (af rfl) rfl <| g0 (af rfl) rfl <| g0 (dp uu175 rfl hlv.sl) rfl <| g0 (dk rfl rfl) rfl <| gn hK6 ?_; clear h ac wo; intro ac wo h
 refine dg h rfl (fun hc1 => ?_) (fun hc1 => ?_)
 ·
  have hd1 := of_decide_eq_true hc1
  refine gz h <| gS <| gx hK5 <| gq fun K7 hK7 => gB <| gr fun K8 hK8 => g0 (af rfl) rfl <| g0 (af rfl) rfl <| g0 (dh (i := i) uu175 zz232 rfl rfl (hlv.nn (i := i) (by first | omega | assumption | grind)) (by first | omega | assumption | grind)) rfl <| g0 (dX (k := 0) Tryz.isAgg232 zz232 hlv (bi (by first | omega | assumption | grind)) rfl (Nat.add_zero _) rfl rfl (v := (vAD (gt l i))) rfl) rfl <| ga (cAD (⟨(⟨oQ, oQ, false⟩ : GR), (⟨oQ, oQ, false⟩ : GR), false, false, oD⟩ : At Qd)) vv232 rfl rfl fun b1 => gs 0 (cAD (gt l i)) rfl zz232 rfl rfl rfl rfl rfl rfl rfl <| gn hK8 <| gq fun K9 hK9 => gr fun K10 hK10 => g0 (fa uu232 rfl zz4 rfl rfl rfl (k' := 18)) rfl <| g1 0 rfl (aS aa4 zz4 rfl rfl rfl (v := (.bool ((gt l i).gap))) rfl) rfl <| gn hK10 ?_; clear h ac wo; intro ac wo h
  refine dg h rfl (fun hc2 => ?_) (fun hc2 => ?_)
  ·
   have hq2 := hc2; try simp at hq2
   have hodd := halt.odd (by omega) hc2
   refine gz h <| gq fun K11 hK11 => gr fun K12 hK12 => g0 (fa uu232 rfl zz4 rfl rfl rfl (k' := 19)) rfl <| g1 0 rfl (aS aa4 zz4 rfl rfl rfl (v := (.bool ((gt l i).has))) rfl) rfl <| g0 (dV rfl) rfl <| gn hK12 ?_; clear h ac wo; intro ac wo h
   refine dg h rfl (fun hc3 => ?_) (fun hc3 => ?_)
   ·
    have hq3 := hc3; try simp at hq3
    refine gz h <| gE <| gx hK7 <| gR <| g0 (af rfl) rfl <| g0 (bt rfl rfl (r := ((i + 1 : Nat) : Int)) (by rw [IntKind.wrap_i64]; first | omega | grind)) rfl <| g0 (ae rfl) rfl <| gx (fun _ _ => bo) ?_; clear h ac wo; intro ac wo h
    replace h := h.sub (F' := [(0, (.iface 73 (.agg #[]))), (1, lv), (5, outv), (6, (.int .i64 ((i + 1 : Nat) : Int)))]) ⟨rfl, rfl, rfl, rfl, trivial⟩
    exact aC ⟨m1, (by omega), _, _, _, (by first | omega | assumption | grind), bA hL1 (show a7 l out i = .go _ from (Eq.trans (cT hc1) (Eq.trans (cT hc2) (cT hc3)))), (by first | omega | assumption | grind), zout, (by first | omega | assumption | grind), (fR hne (fun hn_ => by first | exact hn_ | (simp; done) | (simp; omega)) (fun hg_ hh_ => by first | (simp; done) | (simp; omega) | simp_all)), (h.pick [1] (by decide)).sub ⟨rfl, rfl, rfl, rfl, trivial⟩⟩
   ·
    have hq3 := hc3; try simp at hq3
    refine gz h <| gS <| gx hK11 <| gr fun K13 hK13 => g0 (ae rfl) rfl <| gn hK13 <| gr fun K14 hK14 => g0 (af rfl) rfl <| g0 (af rfl) rfl <| g0 (dB rfl rfl (r := (((i - 1) : Nat) : Int)) (by rw [IntKind.wrap_i64]; first | omega | grind)) rfl <| g0 (dh (i := (i - 1)) uu175 zz232 rfl rfl (hlv.nn (i := (i - 1)) (by first | omega | assumption | grind)) (by first | omega | assumption | grind)) rfl <| g0 (dX (k := 0) Tryz.isAgg232 zz232 hlv (bi (by first | omega | assumption | grind)) rfl (Nat.add_zero _) rfl rfl (v := (vAD (gt l (i - 1)))) rfl) rfl <| ga (cAD (⟨(⟨oQ, oQ, false⟩ : GR), (⟨oQ, oQ, false⟩ : GR), false, false, oD⟩ : At Qd)) vv232 rfl rfl fun b2 => gs 0 (cAD (gt l (i - 1))) rfl zz232 rfl rfl rfl rfl rfl rfl rfl <| gn hK14 ?_; clear h ac wo; intro ac wo h
    replace h := h.sub (F' := [(0, (.iface 73 (.agg #[]))), (1, lv), (5, outv), (6, (.int .i64 ((i : Nat) : Int))), (7, (ptr b1 0)), (8, (.bool false)), (9, (ptr b2 0))]) ⟨rfl, rfl, rfl, rfl, rfl, rfl, rfl, trivial⟩
    refine di fun K15 hK15 => ?_
    refine di fun K16 hK16 => ?_
    refine cb mixed [dv _, dv _, dv _, dv _, dv _, dv _, dv _, dv _, dv _, dv _, dv _, dv _, dw _ [0], dv _, dv _, dv _, dv _, dv _, dv _, dv _, dv _, dv _, dv _, dw _ [0], dv _, dw _ [1], dv _, dv _, dv _, dv _, dv _, dv _, dv _, dv _, dv _, dv _, dv _, dv _, dv _, dv _, dw _ [1], dv _, dv _, dv _, dv _, dv _] [⟨_, []⟩, ⟨_, []⟩, ⟨_, []⟩] h rfl (by kernel_rfl) ⟨fun _ _ => om rfl, fun _ _ => aq (lG rfl rfl), fun _ _ => om rfl, fun _ _ => oh rfl rfl rfl rfl (fun hg => af rfl), fun _ _ => oh rfl rfl rfl rfl (fun hg => af rfl), fun _ _ => oh rfl rfl rfl rfl (fun hg => dB (an rfl hg) rfl (r := (((i - 2) : Nat) : Int)) (by rw [IntKind.wrap_i64]; first | omega | (simp at hg; omega) | grind)), fun _ _ => oh rfl rfl rfl rfl (fun hg => dh (i := (i - 2)) uu175 zz232 (an rfl hg) (an rfl hg) (hlv.nn (i := (i - 2)) (by first | omega | (simp at hg; omega) | grind)) (by first | omega | (simp at hg; omega) | grind)), fun _ _ => oh rfl rfl rfl rfl (fun hg => eC uu232 rfl zz4 (by decide) (hlv.nn (i := 0) (by first | omega | (simp at hg; omega) | grind)) (an rfl hg) rfl (k' := (i - 2) * 32 + 19)), fun _ _ => oh rfl rfl rfl rfl (fun hg => dX (k := 19) aa4 zz4 hlv (bi (by first | omega | (simp at hg; omega) | grind)) (an rfl hg) rfl rfl rfl (v := (.bool ((gt l (i - 2)).has))) rfl), fun _ _ => aq (de rfl (fun e => (an rfl e))), fun _ _ => om rfl, fun _ _ => oh rfl rfl rfl rfl (fun hg => ki uu232 rfl zz4 (by decide) rfl rfl (k' := 19)), fun _ _ => oh rfl rfl rfl rfl (fun hg => aS aa4 zz4 (an rfl hg) rfl rfl (v := (.bool ((gt l (i - 1)).has))) rfl), fun _ _ => aq (de rfl (fun e => (an rfl e))), fun _ _ => om rfl, fun _ _ => oh rfl rfl rfl rfl (fun hg => af rfl), fun _ _ => oh rfl rfl rfl rfl (fun hg => af rfl), fun _ _ => oh rfl rfl rfl rfl (fun hg => af rfl), fun _ _ => oh rfl rfl rfl rfl (fun hg => dB (an rfl hg) rfl (r := (((i - 2) : Nat) : Int)) (by rw [IntKind.wrap_i64]; first | omega | (simp at hg; omega) | grind)), fun _ _ => oh rfl rfl rfl rfl (fun hg => dh (i := (i - 2)) uu175 zz232 (an rfl hg) (an rfl hg) (hlv.nn (i := (i - 2)) (by first | omega | (simp at hg; omega) | grind)) (by first | omega | (simp at hg; omega) | grind)), fun _ _ => oh rfl rfl rfl rfl (fun hg => eC uu232 rfl zz69 (by decide) (hlv.nn (i := 0) (by first | omega | (simp at hg; omega) | grind)) (an rfl hg) rfl (k' := (i - 2) * 32 + 20)), fun _ _ => oh rfl rfl rfl rfl (fun hg => dX (k := 20) aa69 zz69 hlv (bi (by first | omega | (simp at hg; omega) | grind)) (an rfl hg) rfl rfl rfl (v := (vD ((gt l (i - 2)).f))) rfl), fun _ _ => oh rfl rfl rfl rfl (fun hg => ki uu232 rfl zz69 (by decide) rfl rfl (k' := 20)), fun _ _ => oh rfl rfl rfl rfl (fun hg => aS aa69 zz69 (an rfl hg) rfl rfl (v := (vD ((gt l (i - 1)).f))) rfl), fun _ _ => oh rfl rfl rfl rfl (fun hg => ki uu232 rfl zz53 (by decide) rfl rfl (k' := 0)), fun _ _ => oh rfl rfl rfl rfl (fun hg => aS aa53 zz53 (an rfl hg) rfl rfl (v := (vR ((gt l i).frm))) rfl), fun _ _ => oh rfl rfl rfl rfl (fun hg => dW (an rfl hg)), fun _ _ => oh rfl rfl rfl rfl (fun hg => ic (an rfl hg) eS), fun _ _ => oh rfl rfl rfl rfl (fun hg => af (an rfl hg)), fun _ _ => og1 rfl rfl rfl rfl (fun hg => ec (iF eV cc35 (an rfl hg) (bu (an rfl hg) (bu (an rfl hg) (bu (an rfl hg) rfl)))) (kk (du ((gt l (i - 2)).f) ((gt l (i - 1)).f) ((gt l i).frm) (cL (All.gt zl (ex _)).2.2 (by omega)) (cL (All.gt zl (ex _)).2.2 (by omega)) (All.gt zl (ex _)).1))), fun _ _ => aq (de rfl (fun e => (an rfl e))), fun _ _ => om rfl, fun _ _ => oh rfl rfl rfl rfl (fun hg => af rfl), fun _ _ => oh rfl rfl rfl rfl (fun hg => af rfl), fun _ _ => oh rfl rfl rfl rfl (fun hg => af rfl), fun _ _ => oh rfl rfl rfl rfl (fun hg => dB (an rfl hg) rfl (r := (((i - 2) : Nat) : Int)) (by rw [IntKind.wrap_i64]; first | omega | (simp at hg; omega) | grind)), fun _ _ => oh rfl rfl rfl rfl (fun hg => dh (i := (i - 2)) uu175 zz232 (an rfl hg) (an rfl hg) (hlv.nn (i := (i - 2)) (by first | omega | (simp at hg; omega) | grind)) (by first | omega | (simp at hg; omega) | grind)), fun _ _ => oh rfl rfl rfl rfl (fun hg => eC uu232 rfl zz69 (by decide) (hlv.nn (i := 0) (by first | omega | (simp at hg; omega) | grind)) (an rfl hg) rfl (k' := (i - 2) * 32 + 20)), fun _ _ => oh rfl rfl rfl rfl (fun hg => dX (k := 20) aa69 zz69 hlv (bi (by first | omega | (simp at hg; omega) | grind)) (an rfl hg) rfl rfl rfl (v := (vD ((gt l (i - 2)).f))) rfl), fun _ _ => oh rfl rfl rfl rfl (fun hg => ki uu232 rfl zz69 (by decide) rfl rfl (k' := 20)), fun _ _ => oh rfl rfl rfl rfl (fun hg => aS aa69 zz69 (an rfl hg) rfl rfl (v := (vD ((gt l i).f))) rfl), fun _ _ => oh rfl rfl rfl rfl (fun hg => dW (an rfl hg)), fun _ _ => oh rfl rfl rfl rfl (fun hg => ic (an rfl hg) iP), fun _ _ => oh rfl rfl rfl rfl (fun hg => af (an rfl hg)), fun _ _ => og1 rfl rfl rfl rfl (fun hg => ec (iF jb Tryz.call305 (an rfl hg) (bu (an rfl hg) (bu (an rfl hg) rfl))) (kk (gF ((gt l (i - 2)).f) ((gt l i).f) (cL (All.gt zl (ex _)).2.2 (by omega)) (cL (All.gt zl (ex _)).2.2 (by omega))))), fun _ _ => aq (de rfl (fun e => (an rfl e))), trivial⟩ ?_
    clear h ac wo; intro ξ ac wo hφ h
    replace h : St w0 233 [(0, (.iface 73 (.agg #[]))), (1, lv), (5, outv), (6, (.int .i64 ((i : Nat) : Int))), (7, (ptr b1 0)), (8, (.bool false)), (9, (ptr b2 0)), (76, (.bool (((((decide (((i : Nat) : Int) ≥ 2)) && (gt l (i - 2)).has) && (gt l (i - 1)).has) && (aK ((gt l (i - 2)).f) ((gt l (i - 1)).f) ((gt l i).frm))) && (cg ((gt l (i - 2)).f) ((gt l i).f)))))] [.blk b2 (cAD (gt l (i - 1))) 232, .blk b1 (cAD (gt l i)) 232, .row (α := U Qd) 87 outv out] ac wo := (h.pick [0, 1, 2] (by decide)).sub ⟨rfl, rfl, rfl, rfl, rfl, rfl, rfl, rfl, trivial⟩
    clear hφ ξ
    refine hK16 _ _ ?_
    refine dg h rfl (fun hc4 => ?_) (fun hc4 => ?_)
    ·
     have hq4 := hc4; try simp at hq4
     have h2i := of_decide_eq_true (lZ (lZ (lZ (lZ hc4))))
     have hon : 0 < out.length := hne (i - 2) (by omega) (halt.gap (by omega) (by omega)) (andR (lZ (lZ (lZ hc4))))
     refine gz h <| gr fun K17 hK17 => g0 (af rfl) rfl <| g0 (af rfl) rfl ?_; clear h ac wo; intro ac wo h
     refine rd0 h (dp uu24 rfl (h.row_sl 2 rfl)) rfl <| g0 (dB rfl rfl (r := (((out.length - 1) : Nat) : Int)) (by rw [IntKind.wrap_i64]; first | omega | grind)) rfl <| g0 (af rfl) rfl <| g0 (af rfl) rfl ?_; clear h ac wo; intro ac wo h
     refine rd0 h (dp uu24 rfl (h.row_sl 2 rfl)) rfl <| g0 (dB rfl rfl (r := (((out.length - 1) : Nat) : Int)) (by rw [IntKind.wrap_i64]; first | omega | grind)) rfl <| g0 (fa uu232 rfl zz53 rfl rfl rfl (k' := 9)) rfl <| g1 1 rfl (aS aa53 zz53 rfl rfl rfl (v := (vR ((gt l i).til))) rfl) rfl ?_; clear h ac wo; intro ac wo h
     refine rd0 h (dh (i := (out.length - 1)) uu24 zz87 rfl rfl (h.row_nn 2 rfl (by first | omega | assumption | grind)) (by first | omega | assumption | grind)) rfl ?_; clear h ac wo; intro ac wo h
     refine rd0 h (fs uu87 rfl zz55 rfl (h.row_nn 2 rfl (by first | omega | assumption | grind)) rfl rfl (k' := (out.length - 1) * 32 + 0)) rfl ?_; clear h ac wo; intro ac wo h
     refine rd0 h (fs uu55 rfl zz53 rfl (h.row_nn 2 rfl (by first | omega | assumption | grind)) rfl (by first | rfl | (simp only [Nat.add_assoc] <;> rfl)) (k' := (out.length - 1) * 32 + 9)) rfl ?_; clear h ac wo; intro ac wo h
     refine up h 2 rfl (fc (k := 9) (u' := (⟨(⟨((gt out (out.length - 1)).iv).lo, (gt l i).til, ((gt out (out.length - 1)).iv).openLo, ((gt out (out.length - 1)).iv).openHi⟩ : Iv), (gt out (out.length - 1)).f⟩ : U Qd)) zz53 (bi (by first | omega | assumption | grind)) rfl rfl rfl rfl rfl rfl rfl rfl) ?_; clear h ac wo; intro ac wo h
     refine rd0 h (dh (i := (out.length - 1)) uu24 zz87 rfl rfl (h.row_nn 2 rfl (by first | omega | assumption | grind)) (by first | omega | assumption | grind)) rfl ?_; clear h ac wo; intro ac wo h
     refine rd0 h (fs uu87 rfl zz55 rfl (h.row_nn 2 rfl (by first | omega | assumption | grind)) rfl rfl (k' := (out.length - 1) * 32 + 0)) rfl ?_; clear h ac wo; intro ac wo h
     refine rd0 h (fs uu55 rfl zz4 rfl (h.row_nn 2 rfl (by first | omega | assumption | grind)) rfl (by first | rfl | (simp only [Nat.add_assoc] <;> rfl)) (k' := (out.length - 1) * 32 + 19)) rfl ?_; clear h ac wo; intro ac wo h
     refine up h 2 rfl (fc (k := 19) (u' := (⟨(⟨((gt out (out.length - 1)).iv).lo, (gt l i).til, ((gt out (out.length - 1)).iv).openLo, true⟩ : Iv), (gt out (out.length - 1)).f⟩ : U Qd)) zz4 (iE (by first | omega | assumption | grind)) rfl rfl rfl rfl rfl rfl rfl rfl) ?_; clear h ac wo; intro ac wo h
     replace h := h.rowEq 2 rfl (by rw [List.set_set] : _ = (out.set (out.length - 1) (⟨(⟨((gt out (out.length - 1)).iv).lo, (gt l i).til, ((gt out (out.length - 1)).iv).openLo, true⟩ : Iv), (gt out (out.length - 1)).f⟩ : U Qd)))
     refine bo ?_
     refine hK17 _ _ ?_
     replace h := h.sub (F' := [(0, (.iface 73 (.agg #[]))), (1, lv), (5, outv), (6, (.int .i64 ((i : Nat) : Int))), (7, (ptr b1 0)), (9, (ptr b2 0))]) ⟨rfl, rfl, rfl, rfl, rfl, rfl, trivial⟩
     refine gz h <| gR <| g0 (ae rfl) rfl <| gn hK15 <| gq fun K18 hK18 => gr fun K19 hK19 => g0 (af rfl) rfl <| g0 (dV rfl) rfl <| gn hK19 ?_; clear h ac wo; intro ac wo h
     refine mO h rfl ?_
     refine gz h <| gS <| gx hK18 <| gE <| gx hK7 <| gR <| g0 (af rfl) rfl <| g0 (bt rfl rfl (r := ((i + 1 : Nat) : Int)) (by rw [IntKind.wrap_i64]; first | omega | grind)) rfl <| g0 (ae rfl) rfl <| gx (fun _ _ => bo) ?_; clear h ac wo; intro ac wo h
     exact aC ⟨m1, (by omega), _, _, _, (by first | omega | assumption | grind), bA hL1 (show a7 l out i = .go _ from (Eq.trans (cT hc1) (Eq.trans (cT hc2) (Eq.trans (cF hc3) (cT hc4))))), (by first | omega | assumption | grind), (All.set zout ⟨⟨((All.gt zout (bW _)).1).1, (df (All.gt zl (ex _)).2.1 (by omega))⟩, (All.gt zout (bW _)).2⟩), (by first | omega | assumption | grind), (fR hne (fun hn_ => by first | exact hn_ | (simp; done) | (simp; omega)) (fun hg_ hh_ => by first | (simp; done) | (simp; omega) | simp_all)), (h.pick [2] (by decide)).sub ⟨rfl, rfl, rfl, rfl, trivial⟩⟩
    ·
     have hq4 := hc4; try simp at hq4
     refine gz h <| gS <| gx hK15 <| gq fun K20 hK20 => gr fun K21 hK21 => g0 (af rfl) rfl <| g0 (dV rfl) rfl <| gn hK21 ?_; clear h ac wo; intro ac wo h
     refine qM h rfl ?_
     refine di fun K22 hK22 => ?_
     refine cb mixed [dv _, dw _ [0], dv _, dv _, dv _, dw _ [1], dv _, dw _ [0], dv _, dw _ [1], dv _, dv _, dv _, dv _, dv _, dv _, dv _, dv _, dv _, dv _, dv _, dv _, dv _, dv _, dv _, dv _, dv _, dv _, dv _, dv _, dv _, dv _, dw _ [0], dv _, dw _ [1], dv _, dv _, dv _, dv _, dv _, dv _, dv _, dv _] [⟨_, []⟩, ⟨_, []⟩, ⟨_, []⟩] h rfl (by kernel_rfl) ⟨fun _ _ => aq (fa uu232 rfl zz4 rfl rfl rfl (k' := 19)), fun _ _ => cp _ rfl rfl (aS aa4 zz4 rfl rfl rfl (v := (.bool ((gt l (i - 1)).has))) rfl), fun _ _ => om rfl, fun _ _ => oh rfl rfl rfl rfl (fun hg => af rfl), fun _ _ => oh rfl rfl rfl rfl (fun hg => ki uu232 rfl zz69 (by decide) rfl rfl (k' := 20)), fun _ _ => oh rfl rfl rfl rfl (fun hg => aS aa69 zz69 (an rfl hg) rfl rfl (v := (vD ((gt l i).f))) rfl), fun _ _ => oh rfl rfl rfl rfl (fun hg => ki uu232 rfl zz69 (by decide) rfl rfl (k' := 20)), fun _ _ => oh rfl rfl rfl rfl (fun hg => aS aa69 zz69 (an rfl hg) rfl rfl (v := (vD ((gt l (i - 1)).f))) rfl), fun _ _ => oh rfl rfl rfl rfl (fun hg => ki uu232 rfl zz53 (by decide) rfl rfl (k' := 0)), fun _ _ => oh rfl rfl rfl rfl (fun hg => aS aa53 zz53 (an rfl hg) rfl rfl (v := (vR ((gt l i).frm))) rfl), fun _ _ => og1 rfl rfl rfl rfl (fun hg => ec (iF eV cc35 (an rfl hg) (bu (an rfl hg) (bu (an rfl hg) (bu (an rfl hg) rfl)))) (kk (du ((gt l i).f) ((gt l (i - 1)).f) ((gt l i).frm) (cL (All.gt zl (ex _)).2.2 (by omega)) (cL (All.gt zl (ex _)).2.2 (by omega)) (All.gt zl (ex _)).1))), fun _ _ => aq (de rfl (fun e => (an rfl e))), fun _ _ => om rfl, fun _ _ => oh rfl rfl rfl rfl (fun hg => af rfl), fun _ _ => oh rfl rfl rfl rfl (fun hg => lG (an rfl hg) rfl), fun _ _ => oh rfl rfl rfl rfl (fun hg => af (an rfl hg)), fun _ _ => og3 rfl rfl rfl rfl (fun hg => Rd.step (af rfl)), fun _ _ => og3 rfl rfl rfl rfl (fun hg => Rd.step (af rfl)), fun _ _ => og3 rfl rfl rfl rfl (fun hg => Rd.step (dB (an rfl hg) rfl (r := (((i - 2) : Nat) : Int)) (by rw [IntKind.wrap_i64]; first | omega | (simp at hg; omega) | grind))), fun _ _ => og3 rfl rfl rfl rfl (fun hg => Rd.step (dh (i := (i - 2)) uu175 zz232 (an rfl hg) (an rfl hg) (hlv.nn (i := (i - 2)) (by first | omega | (simp at hg; omega) | grind)) (by first | omega | (simp at hg; omega) | grind))), fun _ _ => og3 rfl rfl rfl rfl (fun hg => Rd.step (fs uu232 rfl zz4 rfl (hlv.nn (i := 0) (by first | omega | (simp at hg; omega) | grind)) (an rfl hg) rfl (k' := (i - 2) * 32 + 19))), fun _ _ => og3 rfl rfl rfl rfl (fun hg => Rd.step (dX (k := 19) aa4 zz4 hlv (bi (by first | omega | (simp at hg; omega) | grind)) (an rfl hg) rfl rfl rfl (v := (.bool ((gt l (i - 2)).has))) rfl)), fun _ _ => oh rfl rfl rfl rfl (fun hg => de (an rfl hg) (fun e => (an rfl (ke hg e)))), fun _ _ => oh rfl rfl rfl rfl (fun hg => af (an rfl hg)), fun _ _ => og3 rfl rfl rfl rfl (fun hg => Rd.step (af rfl)), fun _ _ => og3 rfl rfl rfl rfl (fun hg => Rd.step (af rfl)), fun _ _ => og3 rfl rfl rfl rfl (fun hg => Rd.step (af rfl)), fun _ _ => og3 rfl rfl rfl rfl (fun hg => Rd.step (dB (an rfl hg) rfl (r := (((i - 2) : Nat) : Int)) (by rw [IntKind.wrap_i64]; first | omega | (simp at hg; omega) | grind))), fun _ _ => og3 rfl rfl rfl rfl (fun hg => Rd.step (dh (i := (i - 2)) uu175 zz232 (an rfl hg) (an rfl hg) (hlv.nn (i := (i - 2)) (by first | omega | (simp at hg; omega) | grind)) (by first | omega | (simp at hg; omega) | grind))), fun _ _ => og3 rfl rfl rfl rfl (fun hg => Rd.step (fs uu232 rfl zz69 rfl (hlv.nn (i := 0) (by first | omega | (simp at hg; omega) | grind)) (an rfl hg) rfl (k' := (i - 2) * 32 + 20))), fun _ _ => og3 rfl rfl rfl rfl (fun hg => Rd.step (dX (k := 20) aa69 zz69 hlv (bi (by first | omega | (simp at hg; omega) | grind)) (an rfl hg) rfl rfl rfl (v := (vD ((gt l (i - 2)).f))) rfl)), fun _ _ => og3 rfl rfl rfl rfl (fun hg => Rd.step (fa uu232 rfl zz69 rfl rfl rfl (k' := 20))), fun _ _ => og3 rfl rfl rfl rfl (fun hg => Rd.step (aS aa69 zz69 (an rfl hg) rfl rfl (v := (vD ((gt l (i - 1)).f))) rfl)), fun _ _ => og3 rfl rfl rfl rfl (fun hg => Rd.step (fa uu232 rfl zz53 rfl rfl rfl (k' := 0))), fun _ _ => og3 rfl rfl rfl rfl (fun hg => Rd.step (aS aa53 zz53 (an rfl hg) rfl rfl (v := (vR ((gt l i).frm))) rfl)), fun _ _ => og3 rfl rfl rfl rfl (fun hg => Rd.step (dW (an rfl hg))), fun _ _ => og3 rfl rfl rfl rfl (fun hg => Rd.step (ic (an rfl hg) eS)), fun _ _ => og3 rfl rfl rfl rfl (fun hg => Rd.step (af (an rfl hg))), fun _ _ => og3 rfl rfl rfl rfl (fun hg => ec (iF eV cc35 (an rfl hg) (bu (an rfl hg) (bu (an rfl hg) (bu (an rfl hg) rfl)))) (kk (du ((gt l (i - 2)).f) ((gt l (i - 1)).f) ((gt l i).frm) (cL (All.gt zl (ex _)).2.2 (by omega)) (cL (All.gt zl (ex _)).2.2 (by omega)) (All.gt zl (ex _)).1))), fun _ _ => oh rfl rfl rfl rfl (fun hg => de (an rfl hg) (fun e => (an rfl (ke hg e)))), fun _ _ => oh rfl rfl rfl rfl (fun hg => dV (an rfl hg)), fun _ _ => aq (de rfl (fun e => (an rfl e))), fun _ _ => aq (ae rfl), trivial⟩ ?_
     clear h ac wo; intro ξ ac wo hφ h
     replace h : St w0 233 [(0, (.iface 73 (.agg #[]))), (1, lv), (5, outv), (6, (.int .i64 ((i : Nat) : Int))), (7, (ptr b1 0)), (10, (.bool (((gt l (i - 1)).has && (aK ((gt l i).f) ((gt l (i - 1)).f) ((gt l i).frm))) && (!(((decide (((i : Nat) : Int) ≥ 2)) && (gt l (i - 2)).has) && (aK ((gt l (i - 2)).f) ((gt l (i - 1)).f) ((gt l i).frm)))))))] [.blk b2 (cAD (gt l (i - 1))) 232, .blk b1 (cAD (gt l i)) 232, .row (α := U Qd) 87 outv out] ac wo := (h.pick [0, 1, 2] (by decide)).sub ⟨rfl, rfl, rfl, rfl, rfl, rfl, trivial⟩
     clear hφ ξ
     refine gz h <| gx hK22 <| gR <| g0 (af rfl) rfl <| g0 (fa uu232 rfl zz53 rfl rfl rfl (k' := 0)) rfl <| g1 1 rfl (aS aa53 zz53 rfl rfl rfl (v := (vR ((gt l i).frm))) rfl) rfl <| g0 (fa uu232 rfl zz53 rfl rfl rfl (k' := 9)) rfl <| g1 1 rfl (aS aa53 zz53 rfl rfl rfl (v := (vR ((gt l i).til))) rfl) rfl <| g0 (af rfl) rfl <| g0 (dV rfl) rfl <| g0 (bG kx rfl rfl (v := (vV (⟨(gt l i).frm, (gt l i).til, (!(((gt l (i - 1)).has && (aK ((gt l i).f) ((gt l (i - 1)).f) ((gt l i).frm))) && (!(((decide (((i : Nat) : Int) ≥ 2)) && (gt l (i - 2)).has) && (aK ((gt l (i - 2)).f) ((gt l (i - 1)).f) ((gt l i).frm)))))), true⟩ : Iv))) rfl) rfl <| g0 (fa uu232 rfl zz69 rfl rfl rfl (k' := 20)) rfl <| g1 1 rfl (aS aa69 zz69 rfl rfl rfl (v := (vD ((gt l i).f))) rfl) rfl <| g0 (bG i1 rfl rfl (v := (vUD (⟨(⟨(gt l i).frm, (gt l i).til, (!(((gt l (i - 1)).has && (aK ((gt l i).f) ((gt l (i - 1)).f) ((gt l i).frm))) && (!(((decide (((i : Nat) : Int) ≥ 2)) && (gt l (i - 2)).has) && (aK ((gt l (i - 2)).f) ((gt l (i - 1)).f) ((gt l i).frm)))))), true⟩ : Iv), (gt l i).f⟩ : U Qd))) rfl) rfl ?_; clear h ac wo; intro ac wo h
     refine nw h (cn (α := U Qd) (xs := [.tmp 147]) (vs := [(vUD (⟨(⟨(gt l i).frm, (gt l i).til, (!(((gt l (i - 1)).has && (aK ((gt l i).f) ((gt l (i - 1)).f) ((gt l i).frm))) && (!(((decide (((i : Nat) : Int) ≥ 2)) && (gt l (i - 2)).has) && (aK ((gt l (i - 2)).f) ((gt l (i - 1)).f) ((gt l i).frm)))))), true⟩ : Iv), (gt l i).f⟩ : U Qd))]) [(⟨(⟨(gt l i).frm, (gt l i).til, (!(((gt l (i - 1)).has && (aK ((gt l i).f) ((gt l (i - 1)).f) ((gt l i).frm))) && (!(((decide (((i : Nat) : Int) ≥ 2)) && (gt l (i - 2)).has) && (aK ((gt l (i - 2)).f) ((gt l (i - 1)).f) ((gt l i).frm)))))), true⟩ : Iv), (gt l i).f⟩ : U Qd)] er rfl rfl rfl (by decide)) rfl ?_; clear h ac wo; intro sv2 ac wo nnsv2 h
     refine on2 h 3 0 rfl rfl (d4 (xs := out) (ys := [(⟨(⟨(gt l i).frm, (gt l i).til, (!(((gt l (i - 1)).has && (aK ((gt l i).f) ((gt l (i - 1)).f) ((gt l i).frm))) && (!(((decide (((i : Nat) : Int) ≥ 2)) && (gt l (i - 2)).has) && (aK ((gt l (i - 2)).f) ((gt l (i - 1)).f) ((gt l i).frm)))))), true⟩ : Iv), (gt l i).f⟩ : U Qd)]) er (fun w hs => (row_view hs 0 rfl)) rfl rfl (by first | omega | assumption | grind)) rfl ?_; clear h ac wo; intro sv3 ac wo apsv3 h
     refine rd0 h (ae rfl) rfl <| gx (fun _ _ => bo) ?_; clear h ac wo; intro ac wo h
     replace h := h.sub (F' := [(0, (.iface 73 (.agg #[]))), (1, lv), (5, sv3), (6, (.int .i64 ((i : Nat) : Int)))]) ⟨rfl, rfl, rfl, rfl, trivial⟩
     refine gz h <| gx hK20 <| gE <| gx hK7 <| gR <| g0 (af rfl) rfl <| g0 (bt rfl rfl (r := ((i + 1 : Nat) : Int)) (by rw [IntKind.wrap_i64]; first | omega | grind)) rfl <| g0 (ae rfl) rfl <| gx (fun _ _ => bo) ?_; clear h ac wo; intro ac wo h
     exact aC ⟨m1, (by omega), _, _, _, (by first | omega | assumption | grind), bA hL1 (show a7 l out i = .go _ from (Eq.trans (cT hc1) (Eq.trans (cT hc2) (Eq.trans (cF hc3) (cF hc4))))), (by first | omega | assumption | grind), (All.app zout (All.cons ⟨⟨(df (All.gt zl (ex _)).1 (by omega)), (df (All.gt zl (ex _)).2.1 (by omega))⟩, (cL (All.gt zl (ex _)).2.2 (by omega))⟩ All.nil)), (by first | omega | assumption | grind), (fR hne (fun hn_ => by first | exact hn_ | (simp; done) | (simp; omega)) (fun hg_ hh_ => by first | (simp; done) | (simp; omega) | simp_all)), (h.pick [0] (by decide)).sub ⟨rfl, rfl, rfl, rfl, trivial⟩⟩
  ·
   have hq2 := hc2; try simp at hq2
   have heven := halt.even (by omega) hc2
   refine gz h <| gS <| gx hK9 <| gq fun K23 hK23 => gr fun K24 hK24 => g0 (fa uu232 rfl zz4 rfl rfl rfl (k' := 19)) rfl <| g1 0 rfl (aS aa4 zz4 rfl rfl rfl (v := (.bool ((gt l i).has))) rfl) rfl <| g0 (dV rfl) rfl <| gn hK24 ?_; clear h ac wo; intro ac wo h
   refine dg h rfl (fun hc5 => ?_) (fun hc5 => ?_)
   ·
    have hq5 := hc5; try simp at hq5
    refine gz h <| gE <| gx hK7 <| gR <| g0 (af rfl) rfl <| g0 (bt rfl rfl (r := ((i + 1 : Nat) : Int)) (by rw [IntKind.wrap_i64]; first | omega | grind)) rfl <| g0 (ae rfl) rfl <| gx (fun _ _ => bo) ?_; clear h ac wo; intro ac wo h
    replace h := h.sub (F' := [(0, (.iface 73 (.agg #[]))), (1, lv), (5, outv), (6, (.int .i64 ((i + 1 : Nat) : Int)))]) ⟨rfl, rfl, rfl, rfl, trivial⟩
    exact aC ⟨m1, (by omega), _, _, _, (by first | omega | assumption | grind), bA hL1 (show a7 l out i = .go _ from (Eq.trans (cT hc1) (Eq.trans (cF hc2) (cT hc5)))), (by first | omega | assumption | grind), zout, (by first | omega | assumption | grind), (fR hne (fun hn_ => by first | exact hn_ | (simp; done) | (simp; omega)) (fun hg_ hh_ => by first | (simp; done) | (simp; omega) | simp_all)), (h.pick [1] (by decide)).sub ⟨rfl, rfl, rfl, rfl, trivial⟩⟩
   ·
    have hq5 := hc5; try simp at hq5
    refine dI ?_
    refine hK23 _ _ ?_
    refine di fun K25 hK25 => ?_
    refine di fun K26 hK26 => ?_
    refine cb mixed [dv _, dv _, dv _, dv _, dv _, dv _, dv _, dv _, dv _, dv _, dv _, dv _, dv _, dv _, dv _, dv _, dv _, dv _, dv _, dw _ [0], dv _, dw _ [0], dv _, dv _, dv _, dv _, dv _] [⟨_, []⟩, ⟨_, []⟩] h rfl (by kernel_rfl) ⟨fun _ _ => om rfl, fun _ _ => aq (iZ rfl rfl), fun _ _ => om rfl, fun _ _ => oh rfl rfl rfl rfl (fun hg => af rfl), fun _ _ => oh rfl rfl rfl rfl (fun hg => af rfl), fun _ _ => oh rfl rfl rfl rfl (fun hg => dB (an rfl hg) rfl (r := (((i - 1) : Nat) : Int)) (by rw [IntKind.wrap_i64]; first | omega | (simp at hg; omega) | grind)), fun _ _ => oh rfl rfl rfl rfl (fun hg => dh (i := (i - 1)) uu175 zz232 (an rfl hg) (an rfl hg) (hlv.nn (i := (i - 1)) (by first | omega | (simp at hg; omega) | grind)) (by first | omega | (simp at hg; omega) | grind)), fun _ _ => oh rfl rfl rfl rfl (fun hg => eC uu232 rfl zz4 (by decide) (hlv.nn (i := 0) (by first | omega | (simp at hg; omega) | grind)) (an rfl hg) rfl (k' := (i - 1) * 32 + 19)), fun _ _ => oh rfl rfl rfl rfl (fun hg => dX (k := 19) aa4 zz4 hlv (bi (by first | omega | (simp at hg; omega) | grind)) (an rfl hg) rfl rfl rfl (v := (.bool ((gt l (i - 1)).has))) rfl), fun _ _ => aq (de rfl (fun e => (an rfl e))), fun _ _ => om rfl, fun _ _ => oh rfl rfl rfl rfl (fun hg => af rfl), fun _ _ => oh rfl rfl rfl rfl (fun hg => af rfl), fun _ _ => oh rfl rfl rfl rfl (fun hg => af rfl), fun _ _ => oh rfl rfl rfl rfl (fun hg => dB (an rfl hg) rfl (r := (((i - 1) : Nat) : Int)) (by rw [IntKind.wrap_i64]; first | omega | (simp at hg; omega) | grind)), fun _ _ => oh rfl rfl rfl rfl (fun hg => dh (i := (i - 1)) uu175 zz232 (an rfl hg) (an rfl hg) (hlv.nn (i := (i - 1)) (by first | omega | (simp at hg; omega) | grind)) (by first | omega | (simp at hg; omega) | grind)), fun _ _ => oh rfl rfl rfl rfl (fun hg => eC uu232 rfl zz69 (by decide) (hlv.nn (i := 0) (by first | omega | (simp at hg; omega) | grind)) (an rfl hg) rfl (k' := (i - 1) * 32 + 20)), fun _ _ => oh rfl rfl rfl rfl (fun hg => dX (k := 20) aa69 zz69 hlv (bi (by first | omega | (simp at hg; omega) | grind)) (an rfl hg) rfl rfl rfl (v := (vD ((gt l (i - 1)).f))) rfl), fun _ _ => oh rfl rfl rfl rfl (fun hg => ki uu232 rfl zz69 (by decide) rfl rfl (k' := 20)), fun _ _ => oh rfl rfl rfl rfl (fun hg => aS aa69 zz69 (an rfl hg) rfl rfl (v := (vD ((gt l i).f))) rfl), fun _ _ => oh rfl rfl rfl rfl (fun hg => ki uu232 rfl zz53 (by decide) rfl rfl (k' := 0)), fun _ _ => oh rfl rfl rfl rfl (fun hg => aS aa53 zz53 (an rfl hg) rfl rfl (v := (vR ((gt l i).frm))) rfl), fun _ _ => oh rfl rfl rfl rfl (fun hg => dW (an rfl hg)), fun _ _ => oh rfl rfl rfl rfl (fun hg => ic (an rfl hg) eS), fun _ _ => oh rfl rfl rfl rfl (fun hg => af (an rfl hg)), fun _ _ => og1 rfl rfl rfl rfl (fun hg => ec (iF eV cc35 (an rfl hg) (bu (an rfl hg) (bu (an rfl hg) (bu (an rfl hg) rfl)))) (kk (du ((gt l (i - 1)).f) ((gt l i).f) ((gt l i).frm) (cL (All.gt zl (ex _)).2.2 (by omega)) (cL (All.gt zl (ex _)).2.2 (by omega)) (All.gt zl (ex _)).1))), fun _ _ => aq (de rfl (fun e => (an rfl e))), trivial⟩ ?_
    clear h ac wo; intro ξ ac wo hφ h
    replace h : St w0 233 [(0, (.iface 73 (.agg #[]))), (1, lv), (5, outv), (6, (.int .i64 ((i : Nat) : Int))), (7, (ptr b1 0)), (179, (.bool (((decide (((i : Nat) : Int) > 0)) && (gt l (i - 1)).has) && (aK ((gt l (i - 1)).f) ((gt l i).f) ((gt l i).frm)))))] [.blk b1 (cAD (gt l i)) 232, .row (α := U Qd) 87 outv out] ac wo := (h.pick [0, 1] (by decide)).sub ⟨rfl, rfl, rfl, rfl, rfl, rfl, trivial⟩
    clear hφ ξ
    refine hK26 _ _ ?_
    refine dg h rfl (fun hc6 => ?_) (fun hc6 => ?_)
    ·
     have hq6 := hc6; try simp at hq6
     have h1i := of_decide_eq_true (lZ (lZ hc6))
     have hon : 0 < out.length := hne (i - 1) (by omega) (halt.gap (by omega) (by omega)) (andR (lZ hc6))
     refine gz h <| gr fun K27 hK27 => g0 (af rfl) rfl <| g0 (af rfl) rfl ?_; clear h ac wo; intro ac wo h
     refine rd0 h (dp uu24 rfl (h.row_sl 1 rfl)) rfl <| g0 (dB rfl rfl (r := (((out.length - 1) : Nat) : Int)) (by rw [IntKind.wrap_i64]; first | omega | grind)) rfl ?_; clear h ac wo; intro ac wo h
     refine rd0 h (dh (i := (out.length - 1)) uu24 zz87 rfl rfl (h.row_nn 1 rfl (by first | omega | assumption | grind)) (by first | omega | assumption | grind)) rfl ?_; clear h ac wo; intro ac wo h
     refine rd0 h (fs uu87 rfl zz55 rfl (h.row_nn 1 rfl (by first | omega | assumption | grind)) rfl rfl (k' := (out.length - 1) * 32 + 0)) rfl ?_; clear h ac wo; intro ac wo h
     refine rd0 h (fs uu55 rfl zz4 rfl (h.row_nn 1 rfl (by first | omega | assumption | grind)) rfl (by first | rfl | (simp only [Nat.add_assoc] <;> rfl)) (k' := (out.length - 1) * 32 + 19)) rfl ?_; clear h ac wo; intro ac wo h
     refine up h 1 rfl (fc (k := 19) (u' := (⟨(⟨((gt out (out.length - 1)).iv).lo, ((gt out (out.length - 1)).iv).hi, ((gt out (out.length - 1)).iv).openLo, false⟩ : Iv), (gt out (out.length - 1)).f⟩ : U Qd)) zz4 (bi (by first | omega | assumption | grind)) rfl rfl rfl rfl rfl rfl rfl rfl) ?_; clear h ac wo; intro ac wo h
     refine gz h <| gn hK27 <| gE <| gx hK7 <| gR <| g0 (af rfl) rfl <| g0 (bt rfl rfl (r := ((i + 1 : Nat) : Int)) (by rw [IntKind.wrap_i64]; first | omega | grind)) rfl <| g0 (ae rfl) rfl <| gx (fun _ _ => bo) ?_; clear h ac wo; intro ac wo h
     exact aC ⟨m1, (by omega), _, _, _, (by first | omega | assumption | grind), bA hL1 (show a7 l out i = .go _ from (Eq.trans (cT hc1) (Eq.trans (cF hc2) (Eq.trans (cF hc5) (cT hc6))))), (by first | omega | assumption | grind), (All.set zout ⟨⟨((All.gt zout (bW _)).1).1, ((All.gt zout (bW _)).1).2⟩, (All.gt zout (bW _)).2⟩), (by first | omega | assumption | grind), (fR hne (fun hn_ => by first | exact hn_ | (simp; done) | (simp; omega)) (fun hg_ hh_ => by first | (simp; done) | (simp; omega) | simp_all)), (h.pick [1] (by decide)).sub ⟨rfl, rfl, rfl, rfl, trivial⟩⟩
    ·
     have hq6 := hc6; try simp at hq6
     refine dI ?_
     refine hK25 _ _ ?_
     refine di fun K28 hK28 => ?_
     refine di fun K29 hK29 => ?_
     refine cb mixed [dv _, dv _, dv _, dv _, dv _, dv _, dv _, dv _, dv _, dv _, dv _, dv _, dv _, dv _, dv _, dv _, dv _, dv _, dv _, dv _, dv _, dv _, dw _ [0], dv _, dw _ [0], dv _, dv _, dv _, dv _, dv _] [⟨_, []⟩, ⟨_, []⟩] h rfl (by kernel_rfl) ⟨fun _ _ => om rfl, fun _ _ => aq (bt rfl rfl (r := ((i + 1 : Nat) : Int)) (by rw [IntKind.wrap_i64]; first | omega | grind)), fun _ _ => om rfl, fun _ _ => aq (dp uu175 rfl hlv.sl), fun _ _ => aq (dk rfl rfl), fun _ _ => om rfl, fun _ _ => oh rfl rfl rfl rfl (fun hg => af rfl), fun _ _ => oh rfl rfl rfl rfl (fun hg => af rfl), fun _ _ => oh rfl rfl rfl rfl (fun hg => bt (an rfl hg) rfl (r := ((i + 1 : Nat) : Int)) (by rw [IntKind.wrap_i64]; first | omega | (simp at hg; omega) | grind)), fun _ _ => oh rfl rfl rfl rfl (fun hg => dh (i := (i + 1)) uu175 zz232 (an rfl hg) (an rfl hg) (hlv.nn (i := (i + 1)) (by first | omega | (simp at hg; omega) | grind)) (by first | omega | (simp at hg; omega) | grind)), fun _ _ => oh rfl rfl rfl rfl (fun hg => eC uu232 rfl zz4 (by decide) (hlv.nn (i := 0) (by first | omega | (simp at hg; omega) | grind)) (an rfl hg) rfl (k' := (i + 1) * 32 + 19)), fun _ _ => oh rfl rfl rfl rfl (fun hg => dX (k := 19) aa4 zz4 hlv (bi (by first | omega | (simp at hg; omega) | grind)) (an rfl hg) rfl rfl rfl (v := (.bool ((gt l (i + 1)).has))) rfl), fun _ _ => aq (de rfl (fun e => (an rfl e))), fun _ _ => om rfl, fun _ _ => oh rfl rfl rfl rfl (fun hg => af rfl), fun _ _ => oh rfl rfl rfl rfl (fun hg => af rfl), fun _ _ => oh rfl rfl rfl rfl (fun hg => af rfl), fun _ _ => oh rfl rfl rfl rfl (fun hg => bt (an rfl hg) rfl (r := ((i + 1 : Nat) : Int)) (by rw [IntKind.wrap_i64]; first | omega | (simp at hg; omega) | grind)), fun _ _ => oh rfl rfl rfl rfl (fun hg => dh (i := (i + 1)) uu175 zz232 (an rfl hg) (an rfl hg) (hlv.nn (i := (i + 1)) (by first | omega | (simp at hg; omega) | grind)) (by first | omega | (simp at hg; omega) | grind)), fun _ _ => oh rfl rfl rfl rfl (fun hg => eC uu232 rfl zz69 (by decide) (hlv.nn (i := 0) (by first | omega | (simp at hg; omega) | grind)) (an rfl hg) rfl (k' := (i + 1) * 32 + 20)), fun _ _ => oh rfl rfl rfl rfl (fun hg => dX (k := 20) aa69 zz69 hlv (bi (by first | omega | (simp at hg; omega) | grind)) (an rfl hg) rfl rfl rfl (v := (vD ((gt l (i + 1)).f))) rfl), fun _ _ => oh rfl rfl rfl rfl (fun hg => ki uu232 rfl zz69 (by decide) rfl rfl (k' := 20)), fun _ _ => oh rfl rfl rfl rfl (fun hg => aS aa69 zz69 (an rfl hg) rfl rfl (v := (vD ((gt l i).f))) rfl), fun _ _ => oh rfl rfl rfl rfl (fun hg => ki uu232 rfl zz53 (by decide) rfl rfl (k' := 0)), fun _ _ => oh rfl rfl rfl rfl (fun hg => aS aa53 zz53 (an rfl hg) rfl rfl (v := (vR ((gt l i).frm))) rfl), fun _ _ => oh rfl rfl rfl rfl (fun hg => dW (an rfl hg)), fun _ _ => oh rfl rfl rfl rfl (fun hg => ic (an rfl hg) eS), fun _ _ => oh rfl rfl rfl rfl (fun hg => af (an rfl hg)), fun _ _ => og1 rfl rfl rfl rfl (fun hg => ec (iF eV cc35 (an rfl hg) (bu (an rfl hg) (bu (an rfl hg) (bu (an rfl hg) rfl)))) (kk (du ((gt l (i + 1)).f) ((gt l i).f) ((gt l i).frm) (cL (All.gt zl (ex _)).2.2 (by omega)) (cL (All.gt zl (ex _)).2.2 (by omega)) (All.gt zl (ex _)).1))), fun _ _ => aq (de rfl (fun e => (an rfl e))), trivial⟩ ?_
     clear h ac wo; intro ξ ac wo hφ h
     replace h : St w0 233 [(0, (.iface 73 (.agg #[]))), (1, lv), (5, outv), (6, (.int .i64 ((i : Nat) : Int))), (7, (ptr b1 0)), (216, (.bool (((decide (((i + 1 : Nat) : Int) < ((l.length : Nat) : Int))) && (gt l (i + 1)).has) && (aK ((gt l (i + 1)).f) ((gt l i).f) ((gt l i).frm)))))] [.blk b1 (cAD (gt l i)) 232, .row (α := U Qd) 87 outv out] ac wo := (h.pick [0, 1] (by decide)).sub ⟨rfl, rfl, rfl, rfl, rfl, rfl, trivial⟩
     clear hφ ξ
     refine hK29 _ _ ?_
     refine dg h rfl (fun hc7 => ?_) (fun hc7 => ?_)
     ·
      have hq7 := hc7; try simp at hq7
      refine gz h <| gE <| gx hK7 <| gR <| g0 (af rfl) rfl <| g0 (bt rfl rfl (r := ((i + 1 : Nat) : Int)) (by rw [IntKind.wrap_i64]; first | omega | grind)) rfl <| g0 (ae rfl) rfl <| gx (fun _ _ => bo) ?_; clear h ac wo; intro ac wo h
      exact aC ⟨m1, (by omega), _, _, _, (by first | omega | assumption | grind), bA hL1 (show a7 l out i = .go _ from (Eq.trans (cT hc1) (Eq.trans (cF hc2) (Eq.trans (cF hc5) (Eq.trans (cF hc6) (cT hc7)))))), (by first | omega | assumption | grind), zout, (by first | omega | assumption | grind), (fR hne (fun hn_ => by first | exact hn_ | (simp; done) | (simp; omega)) (fun hg_ hh_ => by first | (simp; done) | (simp; omega) | simp_all)), (h.pick [1] (by decide)).sub ⟨rfl, rfl, rfl, rfl, trivial⟩⟩
     ·
      have hq7 := hc7; try simp at hq7
      refine dI ?_
      refine hK28 _ _ ?_
      have s4 := Calls.pr ((fun w_ hB_ hS_ => ey ((gt l i).f) ((gt l i).frm) (All.gt zl (ex _)).2.2 (All.gt zl (ex _)).1 w_ ) _ h.bel h.sep)
      replace h := h.emps 1
      refine cb mixed [dv _, dv _, dw _ [0], dv _, dw _ [0], dv _, dv _, dv _, dw _ [0], dv _, dw _ [0], dv _, dv _, ⟨.nd (.one 13 fun v => NN v 1), [2]⟩, ⟨.nd (.con True), [1, 2]⟩, ⟨.nd (.two 15 14 fun a b => a = b), []⟩] [⟨_, []⟩, ⟨.row (α := U Qd) 87 outv out, [(14, .one 14 fun v => .row (α := U Qd) 87 v (out ++ [(⟨(⟨(gt l i).frm, (gt l i).til, false, false⟩ : Iv), (aG ((gt l i).f) ((gt l i).frm))⟩ : U Qd)]))]⟩, ⟨.emp, [(13, .one 13 fun v => .row (α := U Qd) 87 v ([(⟨(⟨(gt l i).frm, (gt l i).til, false, false⟩ : Iv), (aG ((gt l i).f) ((gt l i).frm))⟩ : U Qd)]))]⟩] h rfl (by kernel_rfl) ⟨fun _ _ => om rfl, fun _ _ => aq (fa uu232 rfl zz53 rfl rfl rfl (k' := 0)), fun _ _ => cp _ rfl rfl (aS aa53 zz53 rfl rfl rfl (v := (vR ((gt l i).frm))) rfl), fun _ _ => aq (fa uu232 rfl zz53 rfl rfl rfl (k' := 9)), fun _ _ => cp _ rfl rfl (aS aa53 zz53 rfl rfl rfl (v := (vR ((gt l i).til))) rfl), fun _ _ => aq (bG kx rfl rfl (v := (vV (⟨(gt l i).frm, (gt l i).til, false, false⟩ : Iv))) rfl), fun _ _ => om rfl, fun _ _ => aq (fa uu232 rfl zz69 rfl rfl rfl (k' := 20)), fun _ _ => cp _ rfl rfl (aS aa69 zz69 rfl rfl rfl (v := (vD ((gt l i).f))) rfl), fun _ _ => aq (fa uu232 rfl zz53 rfl rfl rfl (k' := 0)), fun _ _ => cp _ rfl rfl (aS aa53 zz53 rfl rfl rfl (v := (vR ((gt l i).frm))) rfl), fun _ _ => eg (ec (iF gX Tryz.call36 rfl rfl) (kk (ey ((gt l i).f) ((gt l i).frm) (All.gt zl (ex _)).2.2 (All.gt zl (ex _)).1))), fun _ _ => aq (bG i1 rfl rfl (v := (vUD (⟨(⟨(gt l i).frm, (gt l i).til, false, false⟩ : Iv), (aG ((gt l i).f) ((gt l i).frm))⟩ : U Qd))) rfl), fun _ _ => iD (ψ := fun v => NN v 1) (B := fun v => [.row (α := U Qd) 87 v ([(⟨(⟨(gt l i).frm, (gt l i).til, false, false⟩ : Iv), (aG ((gt l i).f) ((gt l i).frm))⟩ : U Qd)])]) [.emp] rfl (fun v _ => by simp only [dO, aX] <;> rfl) (fun v hv => by simpa [DF.one, aX] using hv) (gV (cn (α := U Qd) (xs := [.tmp 229]) (vs := [(vUD (⟨(⟨(gt l i).frm, (gt l i).til, false, false⟩ : Iv), (aG ((gt l i).f) ((gt l i).frm))⟩ : U Qd))]) [(⟨(⟨(gt l i).frm, (gt l i).til, false, false⟩ : Iv), (aG ((gt l i).f) ((gt l i).frm))⟩ : U Qd)] er rfl rfl rfl (by decide))), fun ξ hφ => iD (B := fun v => [.row (α := U Qd) 87 v (out ++ [(⟨(⟨(gt l i).frm, (gt l i).til, false, false⟩ : Iv), (aG ((gt l i).f) ((gt l i).frm))⟩ : U Qd)]), .row (α := U Qd) 87 (ξ 13) ([(⟨(⟨(gt l i).frm, (gt l i).til, false, false⟩ : Iv), (aG ((gt l i).f) ((gt l i).frm))⟩ : U Qd)])]) [.row (α := U Qd) 87 outv out, .row (α := U Qd) 87 (ξ 13) ([(⟨(⟨(gt l i).frm, (gt l i).til, false, false⟩ : Iv), (aG ((gt l i).f) ((gt l i).frm))⟩ : U Qd)])] rfl (fun v _ => by simp only [dO, aX] <;> rfl) (fun _ _ => trivial) (d4 (xs := out) (ys := [(⟨(⟨(gt l i).frm, (gt l i).til, false, false⟩ : Iv), (aG ((gt l i).f) ((gt l i).frm))⟩ : U Qd)]) er (fun w hs => (row_view hs 0 rfl)) rfl rfl (by first | omega | assumption | grind)), fun ξ hφ => o8 (φ := .two 15 14 fun a b => a = b) (v := ξ 14) [] rfl rfl (by show upd ξ 15 (ξ 14) 15 = upd ξ 15 (ξ 14) 14; rw [aX, fO (by decide)]) (ae rfl), trivial⟩ ?_
      clear h ac wo; intro ξ ac wo hφ h
      replace h : St w0 233 [(0, (.iface 73 (.agg #[]))), (1, lv), (5, ξ 15), (6, (.int .i64 ((i : Nat) : Int)))] [.blk b1 (cAD (gt l i)) 232, .row (α := U Qd) 87 (ξ 14) (out ++ [(⟨(⟨(gt l i).frm, (gt l i).til, false, false⟩ : Iv), (aG ((gt l i).f) ((gt l i).frm))⟩ : U Qd)])] ac wo := (h.pick [0, 1] (by decide)).sub ⟨rfl, rfl, rfl, rfl, trivial⟩
      rw [show ξ 15 = ξ 14 from hφ 15] at h
      generalize hsv14 : ξ 14 = sv5 at h; clear hsv14
      clear hφ ξ
      refine gz h <| gN <| gx hK7 <| gR <| g0 (af rfl) rfl <| g0 (bt rfl rfl (r := ((i + 1 : Nat) : Int)) (by rw [IntKind.wrap_i64]; first | omega | grind)) rfl <| g0 (ae rfl) rfl <| gx (fun _ _ => bo) ?_; clear h ac wo; intro ac wo h
      exact aC ⟨m1, (by omega), _, _, _, (by first | omega | assumption | grind), bA hL1 (show a7 l out i = .go _ from (Eq.trans (cT hc1) (Eq.trans (cF hc2) (Eq.trans (cF hc5) (Eq.trans (cF hc6) (cF hc7)))))), (by first | omega | assumption | grind), (All.app zout (All.cons ⟨⟨(df (All.gt zl (ex _)).1 (by omega)), (df (All.gt zl (ex _)).2.1 (by omega))⟩, s4⟩ All.nil)), (by first | omega | assumption | grind), (fR hne (fun hn_ => by first | exact hn_ | (simp; done) | (simp; omega)) (fun hg_ hh_ => by first | (simp; done) | (simp; omega) | simp_all)), (h.pick [1] (by decide)).sub ⟨rfl, rfl, rfl, rfl, trivial⟩⟩
 ·
  have hd1 := of_decide_eq_false hc1
  refine dK ?_
  have hx1 := dz hL1 (show a7 l out i = .out (out, i) from (cF hc1))
  refine gz h <| gx hK3 <| gr fun K30 hK30 => g0 (af rfl) rfl <| g0 (ae rfl) rfl <| gn hK30 <| gT ?_; clear h ac wo; intro ac wo h
  have hd : cC l = out := (ew (hX1.trans hx1))
  exact ret h rfl (.tmp rfl .nil) rfl (by rw [hd]; exact h.retR 0 rfl ⟨zout, (by first | omega | assumption | grind)⟩)
attribute [irreducible] cC
def aJ (l : List (U Qd)) : (List (U Qd)) :=
 (cC (bO l (bD l ([]))))
theorem fo (l : List (U Qd)) (lv : Value) (hl : l.length ≤ 100) (zl : All (i3 30) l) (w0 : World) (hlv : View w0 lv l) : Calls Tryz.prog 42 #[(.iface 73 (.agg #[])), lv] w0 (RetR w0 87 (aJ l) (All (i3 20) (aJ l) ∧ (aJ l).length ≤ 4 * l.length)) := by
 refine enter (N := 11) (args := [(.iface 73 (.agg #[])), lv]) Tryz.func42 rfl rfl ?_; intro ac h
 have hlenl := hlv.len
 refine d8 fun K1 hK1 => ?_
 refine rd0 h (ae rfl) rfl <| gn hK1 <| gr fun K2 hK2 => g0 (af rfl) rfl <| g0 (af rfl) rfl <| g0 (af rfl) rfl ?_; clear h ac; intro ac wo h
 replace h := h.nilRow (α := GR) 53
 refine on1 h 0 rfl (kG (vs := [lv, (.slice none 0 0)]) (A := fun v => [.row (α := GR) 53 v (bD l ([]))]) (c8 Tryz.call71 rfl) (fun w_ B_ hB_ hS_ => ir l lv ([]) (.slice none 0 0) (by first | omega | assumption | grind) (by first | omega | assumption | grind) zl All.nil w0 w_ B_ hB_ hS_ hlv)) rfl ?_; clear h ac wo; intro sv2 ac wo s3 h
 have p4 := s3.2
 have s5 := RetR.pr ((fun w_ hB_ hS_ => fw l lv (bD l ([])) sv2 (by first | omega | assumption | grind) (by first | omega | assumption | grind) zl s3.1 w_ (hlv.below hB_) (row_view hS_ 0 rfl)) _ h.bel h.sep)
 have p6 := s5.2
 have p6_0 := p6.1
 have p6_1 := p6.2
 refine j9 (xs := (bO l (bD l ([])))) h (c8 Tryz.call109 rfl) (fun w_ hB_ hS_ => fw l lv (bD l ([])) sv2 (by first | omega | assumption | grind) (by first | omega | assumption | grind) zl s3.1 w_ (hlv.below hB_) (row_view hS_ 0 rfl)) rfl ?_; clear h ac wo; intro sv7 ac wo _ h
 have s8 := RetR.pr ((fun w_ hB_ hS_ => fv (bO l (bD l ([]))) sv7 (by first | omega | assumption | grind) (by first | omega | assumption | grind) s5.1 w_ (row_view hS_ 0 rfl)) _ h.bel h.sep)
 have p9 := s8.2
 refine j9 (xs := (cC (bO l (bD l ([]))))) h (c8 Tryz.call108 rfl) (fun w_ hB_ hS_ => fv (bO l (bD l ([]))) sv7 (by first | omega | assumption | grind) (by first | omega | assumption | grind) s5.1 w_ (row_view hS_ 0 rfl)) rfl ?_; clear h ac wo; intro sv10 ac wo _ h
 refine rd0 h (ae rfl) rfl <| gn hK2 <| gT ?_; clear h ac wo; intro ac wo h
 exact ret h rfl (.tmp rfl .nil) rfl (by unfold aJ; exact h.retR 0 rfl ⟨s8.1, (by first | omega | assumption | grind)⟩)
attribute [irreducible] aJ
end Go.Sx
