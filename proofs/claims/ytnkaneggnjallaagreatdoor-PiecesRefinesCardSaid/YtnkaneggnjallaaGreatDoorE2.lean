/- A part of the proof that the law PiecesRefines answers true at every input and leaves its arguments as they were. -/
import Derived.Test.YtnkaneggnjallaaGreatDoorE1
import Derived.Test.YtnkaneggnjallaaGreatDoorProg
import Derived.Test.YtnkaneggnjallaaGreatDoorA7
import Derived.Test.YtnkaneggnjallaaGreatDoorX
import Derived.Test.YtnkaneggnjallaaGreatDoorY
set_option linter.unusedVariables false
set_option linter.unusedSimpArgs false
open Go.Proofs.Tryz renaming runUnderlying241 → uu241, sizeOf101 → zz101, runUnderlying101 → uu101, sizeOf55 → zz55, isAgg55 → aa55, zeroValue55 → vv55, zeroValue244 → vv244, sizeOf244 → zz244, runUnderlying244 → uu244, sizeOf242 → zz242, runUnderlying242 → uu242, sizeOf3 → zz3, isAgg244 → aa244, runUnderlying240 → uu240, isAgg3 → aa3, sizeOf203 → zz203, isAgg203 → aa203, runUnderlying24 → uu24, runUnderlying26 → uu26, sizeOf87 → zz87, runUnderlying87 → uu87, sizeOf57 → zz57, runUnderlying57 → uu57
namespace Go.Sx
open Go Go.RowKit Go.Proofs
set_option maxRecDepth 100000
set_option maxHeartbeats 40000000
attribute [local irreducible] ao bU aj az bE aP aE aA dG cj aQ
theorem ob : SlT Tryz.prog 101 55 20 216 [.bool false, .string ⟨#[]⟩, .bool false, .string ⟨#[]⟩, .bool false, .string ⟨#[]⟩, .bool false, .string ⟨#[]⟩, .bool false, .bool false, .string ⟨#[]⟩, .bool false, .string ⟨#[]⟩, .bool false, .string ⟨#[]⟩, .bool false, .string ⟨#[]⟩, .bool false, .bool false, .bool false] := ⟨Tryz.underlying101, Tryz.t55, _, Tryz.type55, rfl, rfl, rfl, rfl, rfl, by decide, by decide⟩
theorem n8 : SlT Tryz.prog 240 244 12 128 [.bool false, .string ⟨#[]⟩, .bool false, .string ⟨#[]⟩, .bool false, .string ⟨#[]⟩, .bool false, .string ⟨#[]⟩, .bool false, .bool false, .int .i64 0, .int .i64 0] := ⟨Tryz.underlying240, Tryz.t244, _, Tryz.type244, rfl, rfl, rfl, rfl, rfl, by decide, by decide⟩
theorem slt241 : SlT Tryz.prog 241 101 1 24 [.slice none 0 0] := ⟨Tryz.underlying241, Tryz.t101, _, Tryz.type101, rfl, rfl, rfl, rfl, rfl, by decide, by decide⟩
def iB (a : List Iv) (b : List Iv) (l : List Ev) (x32 : Nat) (l2 : List Ev) (x322 : Nat) (out : List Iv) (in_ : Bool) (x59 : Nat) (from_ : Bd) (n : I2) : (List Iv) :=
 out
def bV (a : List Iv) (b : List Iv) (l : List Ev) (x32 : Nat) (l2 : List Ev) (x322 : Nat) (out : List Iv) (in_ : Bool) (x59 : Nat) (from_ : Bd) (n : I2) : Nx ((List Iv) × Bool × Nat × Bd × I2) (List Iv) :=
 bif (decide (((x59 : Nat) : Int) < (((ah l2).length : Nat) : Int))) then
  bif ((decide (((x59 + 1 : Nat) : Int) < (((ah l2).length : Nat) : Int))) && ((cK ((gt (ah l2) x59).at_) ((gt (ah l2) (x59 + 1)).at_)) == 0)) then
   .go (out, in_, (x59 + 1), from_, (⟨(n.n0 + ((gt (ah l2) x59).b0)), (n.n1 + ((gt (ah l2) x59).b1))⟩ : I2))
  else
   bif ((aR (decide ((n.n0 + ((gt (ah l2) x59).b0)) > 0)) (decide ((n.n1 + ((gt (ah l2) x59).b1)) > 0))) && (!in_)) then
    .go (out, (aR (decide ((n.n0 + ((gt (ah l2) x59).b0)) > 0)) (decide ((n.n1 + ((gt (ah l2) x59).b1)) > 0))), (x59 + 1), (gt (ah l2) x59).at_, (⟨(n.n0 + ((gt (ah l2) x59).b0)), (n.n1 + ((gt (ah l2) x59).b1))⟩ : I2))
   else
    bif ((!(aR (decide ((n.n0 + ((gt (ah l2) x59).b0)) > 0)) (decide ((n.n1 + ((gt (ah l2) x59).b1)) > 0)))) && in_) then
     .go ((out ++ [(cY from_ ((gt (ah l2) x59).at_))]), (aR (decide ((n.n0 + ((gt (ah l2) x59).b0)) > 0)) (decide ((n.n1 + ((gt (ah l2) x59).b1)) > 0))), (x59 + 1), from_, (⟨(n.n0 + ((gt (ah l2) x59).b0)), (n.n1 + ((gt (ah l2) x59).b1))⟩ : I2))
    else
     .go (out, (aR (decide ((n.n0 + ((gt (ah l2) x59).b0)) > 0)) (decide ((n.n1 + ((gt (ah l2) x59).b1)) > 0))), (x59 + 1), from_, (⟨(n.n0 + ((gt (ah l2) x59).b0)), (n.n1 + ((gt (ah l2) x59).b1))⟩ : I2))
 else
  .out (out, in_, x59, from_, n)
def f7 (a : List Iv) (b : List Iv) (l : List Ev) (x32 : Nat) (l2 : List Ev) (x322 : Nat) : (List Iv) :=
 fin (bQ (fun s => bV a b l x32 l2 x322 s.1 s.2.1 s.2.2.1 s.2.2.2.1 s.2.2.2.2) (((ah l2).length - 0) + 1) ([], false, 0, (⟨(⟨(⟨(⟨false, 0⟩ : GI), (⟨false, 0⟩ : GI)⟩ : GQ), (⟨(⟨false, 0⟩ : GI), (⟨false, 0⟩ : GI)⟩ : GQ), false⟩ : GR), false⟩ : Bd), (⟨0, 0⟩ : I2))) (fun s => iB a b l x32 l2 x322 s.1 s.2.1 s.2.2.1 s.2.2.2.1 s.2.2.2.2) (fun r => r)
def d6 (a : List Iv) (b : List Iv) (l : List Ev) (x32 : Nat) (l2 : List Ev) (x322 : Nat) : Nx ((List Ev) × Nat) (List Iv) :=
 bif (decide (((x322 : Nat) : Int) < ((b.length : Nat) : Int))) then
  .go ((l2 ++ [(⟨(aF (gt b x322)), 0, 1⟩ : Ev), (⟨(aH (gt b x322)), 0, (-1)⟩ : Ev)]), (x322 + 1))
 else
  .out (l2, x322)
def f8 (a : List Iv) (b : List Iv) (l : List Ev) (x32 : Nat) : (List Iv) :=
 fin (bQ (fun s => d6 a b l x32 s.1 s.2) ((b.length - 0) + 1) (l, 0)) (fun s => f7 a b l x32 s.1 s.2) (fun r => r)
def d7 (a : List Iv) (b : List Iv) (l : List Ev) (x32 : Nat) : Nx ((List Ev) × Nat) (List Iv) :=
 bif (decide (((x32 : Nat) : Int) < ((a.length : Nat) : Int))) then
  .go ((l ++ [(⟨(aF (gt a x32)), 1, 0⟩ : Ev), (⟨(aH (gt a x32)), (-1), 0⟩ : Ev)]), (x32 + 1))
 else
  .out (l, x32)
def ep (a : List Iv) (b : List Iv) : (List Iv) :=
 fin (bQ (fun s => d7 a b s.1 s.2) ((a.length - 0) + 1) ([], 0)) (fun s => f8 a b s.1 s.2) (fun r => r)
theorem iA (a : List Iv) (av : Value) (b : List Iv) (bv : Value) (hla : a.length + b.length ≤ 6) (za : All (SzV 30) a) (zb : All (SzV 30) b) (w0 : World) (hav : View w0 av a) (hbv : View w0 bv b) : Calls Tryz.prog 121 #[av, bv, (.func (.func 122) #[] #[])] w0 (RetR w0 55 (ep a b) (All (SzV 30) (ep a b) ∧ (ep a b).length ≤ 12)) := by
  refine enter (N := 127) (args := [av, bv, (.func (.func 122) #[] #[])]) Tryz.func121 rfl rfl ?_; intro ac h
  have hlena := hav.len
  have hlenb := hbv.len
  refine d8 fun K1 hK1 => ?_
  refine rd0 h (ae rfl) rfl <| gn hK1 <| gr fun K2 hK2 => g0 (ae rfl) rfl <| gn hK2 <| gq fun K3 hK3 => gr fun K4 hK4 => g0 (af rfl) rfl <| g0 (af rfl) rfl ?_; clear h ac; intro ac wo h
  refine bsl h slt241 rfl rfl (SL.is hav.sl) (SL.is hbv.sl) rfl ?_; clear h ac wo; intro b1 ac wo h
  refine rd0 h (dp uu241 rfl (n := 2) ⟨_, _, rfl⟩) rfl <| g0 (af rfl) rfl <| gn hK4 <| gB ?_; clear h ac wo; intro ac wo h
  refine mU 2 ?_
  refine gz h <| gr fun K5 hK5 => g0 (dk rfl rfl) rfl <| gn hK5 <| gq fun K6 hK6 => ?_; clear h ac wo; intro ac wo h
  refine qM h rfl ?_
  refine gz h <| gS <| gx hK6 <| gq fun K7 hK7 => gB <| gr fun K8 hK8 => g0 (af rfl) rfl <| g0 (dh (n := 2) (i := 0) uu241 zz101 rfl rfl ⟨_, _, _, rfl⟩ (by decide)) rfl <| g1 0 rfl (aS (k := 0) Tryz.isAgg101 zz101 rfl rfl rfl (v := av) rfl) rfl <| g0 (ae rfl) rfl <| g0 (ae rfl) rfl <| gn hK8 <| gr fun K9 hK9 => g0 (af rfl) rfl <| g0 (dp uu101 rfl hav.sl) rfl <| g0 (af rfl) rfl <| gn hK9 <| gB ?_; clear h ac wo; intro ac wo h
  replace h := h.nilRow (α := Ev) 244
  obtain ⟨X1, hX1⟩ : ∃ X, bQ (fun s => d7 a b s.1 s.2) ((a.length - 0) + 1) ([], 0) = X := ⟨_, rfl⟩
  refine wp_loop_ghost (fun n_ a_ w_ => ∃ (l : List Ev) (x32 : Nat) (lv : Value), ((a.length - x32) < n_) ∧ (bQ (fun s => d7 a b s.1 s.2) n_ (l, x32) = X1) ∧ (x32 ≤ a.length) ∧ (All (SzE 30) l) ∧ (l.length = 2 * x32) ∧ (∀ e ∈ l, EvB e) ∧ St w0 127 [(2, (.func (.func 122) #[] #[])), (7, lv), (8, (.int .i64 0)), (23, (.slice (some ⟨b1, 0, none⟩) 2 2)), (24, (.int .i64 2)), (25, (.int .i64 0)), (30, av), (31, (.int .i64 ((a.length : Nat) : Int))), (32, (.int .i64 ((x32 : Nat) : Int)))] [.row (α := Ev) 244 lv l, .blk b1 [av, bv] 101] a_ w_) ((a.length - 0) + 1) ⟨[], 0, (.slice none 0 0), (by omega), hX1, (by first | omega | grind), All.nil, (by first | omega | grind), evb_nil, (h.sub ⟨rfl, rfl, rfl, rfl, rfl, rfl, rfl, rfl, rfl, trivial⟩)⟩ ?_
  clear h ac wo; rintro n1 ac wo ⟨l, x32, lv, hm1, hL1, hx32, zl, hll, hlb, h⟩
  obtain ⟨m1, rfl⟩ : ∃ m, n1 = m + 1 := ⟨n1 - 1, by omega⟩
  refine gz h <| gr fun K10 hK10 => g0 (dk rfl rfl) rfl <| gn hK10 <| gq fun K11 hK11 => ?_; clear h ac wo; intro ac wo h
  refine dg h rfl (fun hc1 => ?_) (fun hc1 => ?_)
  · skip
    have hd1 := of_decide_eq_true hc1
    refine gz h <| gS <| gx hK11 <| gq fun K12 hK12 => gB <| gr fun K13 hK13 => g0 (dh (i := x32) uu101 zz55 rfl rfl (hav.nn (i := x32) (by first | omega | grind)) (by first | omega | grind)) rfl <| g0 (dX (k := 0) aa55 zz55 hav (bi (by first | omega | grind)) rfl (Nat.add_zero _) rfl rfl (v := (vV (gt a x32))) rfl) rfl <| ga (cV (⟨(⟨oQ, oQ, false⟩ : GR), (⟨oQ, oQ, false⟩ : GR), false, false⟩ : Iv)) vv55 rfl rfl fun b2 => gs 0 (cV (gt a x32)) rfl zz55 rfl rfl rfl rfl rfl rfl rfl <| gn hK13 <| gq fun K14 hK14 => ?_; clear h ac wo; intro ac wo h
    have s2 := Calls.pr ((fun w_ hB_ hS_ => fQ (gt a x32) (All.gt za (lJ _)) w_ ) _ h.bel h.sep)
    have s3 := Calls.pr ((fun w_ hB_ hS_ => gj (gt a x32) (All.gt za (lJ _)) w_ ) _ h.bel h.sep)
    replace h := h.emps 2
    refine cb mixed [⟨.det (vV (gt a x32)), [0]⟩, ⟨.det (vW (aF (gt a x32))), []⟩, ⟨.det (vE (⟨(aF (gt a x32)), 0, 0⟩ : Ev)), []⟩, ⟨.det (vV (gt a x32)), [0]⟩, ⟨.det (vW (aH (gt a x32))), []⟩, ⟨.det (vE (⟨(aH (gt a x32)), 0, 0⟩ : Ev)), []⟩, ⟨.nd (.one 6 fun v => ∃ b, v = ptr b 0), [3]⟩, ⟨.nd (.one 7 fun v => ∃ b, v = ptr b 0), [4]⟩, ⟨.det undef, [3]⟩, ⟨.det undef, [4]⟩] [⟨.blk b2 (cV (gt a x32)) 55, []⟩, ⟨.row (α := Ev) 244 lv l, []⟩, ⟨.blk b1 [av, bv] 101, []⟩, ⟨.emp, [(6, .one 6 fun v => .blk (dQ v) (cE (⟨(⟨(⟨oQ, oQ, false⟩ : GR), false⟩ : Bd), 0, 0⟩ : Ev)) 244), (8, .one 6 fun v => .blk (dQ v) (cE (⟨(aF (gt a x32)), 0, 0⟩ : Ev)) 244)]⟩, ⟨.emp, [(7, .one 7 fun v => .blk (dQ v) (cE (⟨(⟨(⟨oQ, oQ, false⟩ : GR), false⟩ : Bd), 0, 0⟩ : Ev)) 244), (9, .one 7 fun v => .blk (dQ v) (cE (⟨(aH (gt a x32)), 0, 0⟩ : Ev)) 244)]⟩] h rfl (by kernel_rfl) ⟨?_, ?_, ?_, ?_, ?_, ?_, ?_, ?_, ?_, ?_, trivial⟩ ?_
    · intro ξ hφ; exact cp [.blk b2 (cV (gt a x32)) 55] rfl rfl (aS aa55 zz55 rfl rfl rfl (v := (vV (gt a x32))) rfl)
    · intro ξ hφ; exact eg (ec (vs := [(vV (gt a x32))]) (c8 Tryz.call136 rfl) (fun w_ hB_ hS_ => fQ (gt a x32) (All.gt za (lJ _)) w_ ))
    · intro ξ hφ; exact aq (bG oR rfl rfl (v := (vE (⟨(aF (gt a x32)), 0, 0⟩ : Ev))) rfl)
    · intro ξ hφ; exact cp [.blk b2 (cV (gt a x32)) 55] rfl rfl (aS aa55 zz55 rfl rfl rfl (v := (vV (gt a x32))) rfl)
    · intro ξ hφ; exact eg (ec (c8 Tryz.call135 rfl) (kk (gj (gt a x32) (All.gt za (lJ _)))))
    · intro ξ hφ; exact aq (bG oR rfl rfl (v := (vE (⟨(aH (gt a x32)), 0, 0⟩ : Ev))) rfl)
    · intro ξ hφ; exact iD (ψ := fun v => ∃ b, v = ptr b 0) (B := fun v => [.blk (dQ v) (cE (⟨(⟨(⟨oQ, oQ, false⟩ : GR), false⟩ : Bd), 0, 0⟩ : Ev)) 244]) [.emp] rfl (fun v _ => by simp only [dO, aX] <;> rfl) (fun v hv => by simpa [DF.one, aX] using hv) (gV (gY vv244 rfl))
    · intro ξ hφ; exact iD (ψ := fun v => ∃ b, v = ptr b 0) (B := fun v => [.blk (dQ v) (cE (⟨(⟨(⟨oQ, oQ, false⟩ : GR), false⟩ : Bd), 0, 0⟩ : Ev)) 244]) [.emp] rfl (fun v _ => by simp only [dO, aX] <;> rfl) (fun v hv => by simpa [DF.one, aX] using hv) (gV (gY vv244 rfl))
    · intro ξ hφ; obtain ⟨b3, hb6⟩ := hφ 6 rfl; exact ff [.blk b3 (cE (⟨(⟨(⟨oQ, oQ, false⟩ : GR), false⟩ : Bd), 0, 0⟩ : Ev)) 244] [.blk b3 (cE (⟨(aF (gt a x32)), 0, 0⟩ : Ev)) 244] (congrArg (fun v => [Asn.blk (dQ v) (cE (⟨(⟨(⟨oQ, oQ, false⟩ : GR), false⟩ : Bd), 0, 0⟩ : Ev)) 244]) hb6) (congrArg (fun v => [Asn.blk (dQ v) (cE (⟨(aF (gt a x32)), 0, 0⟩ : Ev)) 244]) hb6) (fp zz244 (Eq.trans rfl (congrArg some hb6)) rfl rfl rfl rfl rfl rfl)
    · intro ξ hφ; obtain ⟨b4, hb7⟩ := hφ 7 rfl; exact ff [.blk b4 (cE (⟨(⟨(⟨oQ, oQ, false⟩ : GR), false⟩ : Bd), 0, 0⟩ : Ev)) 244] [.blk b4 (cE (⟨(aH (gt a x32)), 0, 0⟩ : Ev)) 244] (congrArg (fun v => [Asn.blk (dQ v) (cE (⟨(⟨(⟨oQ, oQ, false⟩ : GR), false⟩ : Bd), 0, 0⟩ : Ev)) 244]) hb7) (congrArg (fun v => [Asn.blk (dQ v) (cE (⟨(aH (gt a x32)), 0, 0⟩ : Ev)) 244]) hb7) (fp zz244 (Eq.trans rfl (congrArg some hb7)) rfl rfl rfl rfl rfl rfl)
    clear h ac wo; intro ξ ac wo hφ h
    replace h : St w0 127 [(2, (.func (.func 122) #[] #[])), (7, lv), (8, (.int .i64 0)), (23, (.slice (some ⟨b1, 0, none⟩) 2 2)), (24, (.int .i64 2)), (25, (.int .i64 0)), (30, av), (31, (.int .i64 ((a.length : Nat) : Int))), (32, (.int .i64 ((x32 : Nat) : Int))), (12, ξ 6), (13, ξ 7)] [.blk b2 (cV (gt a x32)) 55, .row (α := Ev) 244 lv l, .blk b1 [av, bv] 101, .blk (dQ (ξ 6)) (cE (⟨(aF (gt a x32)), 0, 0⟩ : Ev)) 244, .blk (dQ (ξ 7)) (cE (⟨(aH (gt a x32)), 0, 0⟩ : Ev)) 244] ac wo := (h.pick [0, 1, 2, 3, 4] (by decide)).sub ⟨rfl, rfl, rfl, rfl, rfl, rfl, rfl, rfl, rfl, rfl, rfl, trivial⟩
    revert h
    obtain ⟨b3, hb6⟩ : ∃ b, ξ 6 = ptr b 0 := hφ 6
    obtain ⟨b4, hb7⟩ : ∃ b, ξ 7 = ptr b 0 := hφ 7
    rw [hb6, hb7]; intro h
    clear hb6 hb7
    clear hφ ξ
    refine gz h <| gx hK14 <| gr fun K15 hK15 => g0 (af rfl) rfl <| g0 (af rfl) rfl <| g0 (fa uu244 rfl zz242 rfl rfl rfl (k' := 10)) rfl <| g0 (i6 (i := 0) uu242 zz3 rfl rfl (by decide)) rfl <| gs 3 (cE (⟨(aF (gt a x32)), 1, 0⟩ : Ev)) rfl zz3 rfl rfl rfl rfl rfl rfl rfl <| g0 (fa uu244 rfl zz242 rfl rfl rfl (k' := 10)) rfl <| g0 (i6 (i := 0) uu242 zz3 rfl rfl (by decide)) rfl <| gs 4 (cE (⟨(aH (gt a x32)), (-1), 0⟩ : Ev)) rfl zz3 rfl rfl rfl rfl rfl rfl rfl <| gn hK15 <| gR <| g0 (af rfl) rfl <| g1 3 rfl (aS aa244 zz244 rfl rfl rfl (v := (vE (⟨(aF (gt a x32)), 1, 0⟩ : Ev))) rfl) rfl <| g1 4 rfl (aS aa244 zz244 rfl rfl rfl (v := (vE (⟨(aH (gt a x32)), (-1), 0⟩ : Ev))) rfl) rfl ?_; clear h ac wo; intro ac wo h
    refine nw h (cn (α := Ev) (xs := [.tmp 49, .tmp 50]) (vs := [(vE (⟨(aF (gt a x32)), 1, 0⟩ : Ev)), (vE (⟨(aH (gt a x32)), (-1), 0⟩ : Ev))]) [(⟨(aF (gt a x32)), 1, 0⟩ : Ev), (⟨(aH (gt a x32)), (-1), 0⟩ : Ev)] n8 rfl rfl rfl (by decide)) rfl ?_; clear h ac wo; intro sv4 ac wo nnsv4 h
    refine on2 h 2 0 rfl rfl (d4 (xs := l) (ys := [(⟨(aF (gt a x32)), 1, 0⟩ : Ev), (⟨(aH (gt a x32)), (-1), 0⟩ : Ev)]) n8 (fun w hs => (row_view hs 0 rfl)) rfl rfl (by first | omega | grind)) rfl ?_; clear h ac wo; intro sv5 ac wo apsv5 h
    refine rd0 h (ae rfl) rfl <| gx (fun _ _ => bo) <| gN <| gx hK12 <| gR <| g0 (bt rfl rfl (r := ((x32 + 1 : Nat) : Int)) (by rw [IntKind.wrap_i64]; first | omega | grind)) rfl <| g0 (af rfl) rfl <| gx (fun _ _ => bo) ?_; clear h ac wo; intro ac wo h
    exact aC ⟨m1, (by omega), _, _, _, (by first | omega | grind), bA hL1 (show d7 a b l x32 = .go _ from (cT hc1)), (by first | omega | grind), (All.app zl (All.cons s2 (All.cons s3 All.nil))), (by first | omega | grind), (qv hlb ⟨⟨by decide, by decide⟩, ⟨by decide, by decide⟩⟩ ⟨⟨by decide, by decide⟩, ⟨by decide, by decide⟩⟩), (h.pick [0, 3] (by decide)).sub ⟨rfl, rfl, rfl, rfl, rfl, rfl, rfl, rfl, rfl, trivial⟩⟩
  · skip
    have hd1 := of_decide_eq_false hc1
    refine dK ?_
    have hx1 := dz hL1 (show d7 a b l x32 = .out (l, x32) from (cF hc1))
    refine gz h <| gx hK7 <| gR <| g0 (bt rfl rfl (r := 1) (by decide)) rfl <| g0 (af rfl) rfl <| gx (fun _ _ => bo) ?_; clear h ac wo; intro ac wo h
    refine m5 ?_
    refine gz h <| gr fun K16 hK16 => g0 (dk rfl rfl) rfl <| gn hK16 <| gq fun K17 hK17 => ?_; clear h ac wo; intro ac wo h
    refine qM h rfl ?_
    refine gz h <| gS <| gx hK17 <| gq fun K18 hK18 => gB <| gr fun K19 hK19 => g0 (af rfl) rfl <| g0 (dh (n := 2) (i := 1) uu241 zz101 rfl rfl ⟨_, _, _, rfl⟩ (by decide)) rfl <| g1 1 rfl (aS (k := 1) Tryz.isAgg101 zz101 rfl rfl rfl (v := bv) rfl) rfl <| g0 (ae rfl) rfl <| g0 (ae rfl) rfl <| gn hK19 <| gr fun K20 hK20 => g0 (af rfl) rfl <| g0 (dp uu101 rfl hbv.sl) rfl <| g0 (af rfl) rfl <| gn hK20 <| gB ?_; clear h ac wo; intro ac wo h
    obtain ⟨X2, hX2⟩ : ∃ X, bQ (fun s => d6 a b l x32 s.1 s.2) ((b.length - 0) + 1) (l, 0) = X := ⟨_, rfl⟩
    refine wp_loop_ghost (fun n_ a_ w_ => ∃ (l2 : List Ev) (x322 : Nat) (l2v : Value), ((b.length - x322) < n_) ∧ (bQ (fun s => d6 a b l x32 s.1 s.2) n_ (l2, x322) = X2) ∧ (x322 ≤ b.length) ∧ (All (SzE 30) l2) ∧ (l2.length = 2 * a.length + 2 * x322) ∧ (∀ e ∈ l2, EvB e) ∧ St w0 127 [(2, (.func (.func 122) #[] #[])), (7, l2v), (8, (.int .i64 1)), (23, (.slice (some ⟨b1, 0, none⟩) 2 2)), (24, (.int .i64 2)), (25, (.int .i64 1)), (30, bv), (31, (.int .i64 ((b.length : Nat) : Int))), (32, (.int .i64 ((x322 : Nat) : Int)))] [.row (α := Ev) 244 l2v l2, .blk b1 [av, bv] 101] a_ w_) ((b.length - 0) + 1) ⟨l, 0, lv, (by omega), hX2, (by first | omega | grind), zl, (by first | omega | grind), hlb, (h.sub ⟨rfl, rfl, rfl, rfl, rfl, rfl, rfl, rfl, rfl, trivial⟩)⟩ ?_
    clear h ac wo; rintro n2 ac wo ⟨l2, x322, l2v, hm2, hL2, hx322, zl2, hll2, hlb2, h⟩
    obtain ⟨m2, rfl⟩ : ∃ m, n2 = m + 1 := ⟨n2 - 1, by omega⟩
    refine gz h <| gr fun K21 hK21 => g0 (dk rfl rfl) rfl <| gn hK21 <| gq fun K22 hK22 => ?_; clear h ac wo; intro ac wo h
    refine dg h rfl (fun hc2 => ?_) (fun hc2 => ?_)
    · skip
      have hd2 := of_decide_eq_true hc2
      refine gz h <| gS <| gx hK22 <| gq fun K23 hK23 => gB <| gr fun K24 hK24 => g0 (dh (i := x322) uu101 zz55 rfl rfl (hbv.nn (i := x322) (by first | omega | grind)) (by first | omega | grind)) rfl <| g0 (dX (k := 0) aa55 zz55 hbv (bi (by first | omega | grind)) rfl (Nat.add_zero _) rfl rfl (v := (vV (gt b x322))) rfl) rfl <| ga (cV (⟨(⟨oQ, oQ, false⟩ : GR), (⟨oQ, oQ, false⟩ : GR), false, false⟩ : Iv)) vv55 rfl rfl fun b5 => gs 0 (cV (gt b x322)) rfl zz55 rfl rfl rfl rfl rfl rfl rfl <| gn hK24 <| gq fun K25 hK25 => ?_; clear h ac wo; intro ac wo h
      have s6 := Calls.pr ((fun w_ hB_ hS_ => fQ (gt b x322) (All.gt zb (lJ _)) w_ ) _ h.bel h.sep)
      have s7 := Calls.pr ((fun w_ hB_ hS_ => gj (gt b x322) (All.gt zb (lJ _)) w_ ) _ h.bel h.sep)
      replace h := h.emps 2
      refine cb mixed [⟨.det (vV (gt b x322)), [0]⟩, ⟨.det (vW (aF (gt b x322))), []⟩, ⟨.det (vE (⟨(aF (gt b x322)), 0, 0⟩ : Ev)), []⟩, ⟨.det (vV (gt b x322)), [0]⟩, ⟨.det (vW (aH (gt b x322))), []⟩, ⟨.det (vE (⟨(aH (gt b x322)), 0, 0⟩ : Ev)), []⟩, ⟨.nd (.one 6 fun v => ∃ b, v = ptr b 0), [3]⟩, ⟨.nd (.one 7 fun v => ∃ b, v = ptr b 0), [4]⟩, ⟨.det undef, [3]⟩, ⟨.det undef, [4]⟩] [⟨.blk b5 (cV (gt b x322)) 55, []⟩, ⟨.row (α := Ev) 244 l2v l2, []⟩, ⟨.blk b1 [av, bv] 101, []⟩, ⟨.emp, [(6, .one 6 fun v => .blk (dQ v) (cE (⟨(⟨(⟨oQ, oQ, false⟩ : GR), false⟩ : Bd), 0, 0⟩ : Ev)) 244), (8, .one 6 fun v => .blk (dQ v) (cE (⟨(aF (gt b x322)), 0, 0⟩ : Ev)) 244)]⟩, ⟨.emp, [(7, .one 7 fun v => .blk (dQ v) (cE (⟨(⟨(⟨oQ, oQ, false⟩ : GR), false⟩ : Bd), 0, 0⟩ : Ev)) 244), (9, .one 7 fun v => .blk (dQ v) (cE (⟨(aH (gt b x322)), 0, 0⟩ : Ev)) 244)]⟩] h rfl (by kernel_rfl) ⟨?_, ?_, ?_, ?_, ?_, ?_, ?_, ?_, ?_, ?_, trivial⟩ ?_
      · intro ξ hφ; exact cp [.blk b5 (cV (gt b x322)) 55] rfl rfl (aS aa55 zz55 rfl rfl rfl (v := (vV (gt b x322))) rfl)
      · intro ξ hφ; exact eg (ec (vs := [(vV (gt b x322))]) (c8 Tryz.call136 rfl) (fun w_ hB_ hS_ => fQ (gt b x322) (All.gt zb (lJ _)) w_ ))
      · intro ξ hφ; exact aq (bG oR rfl rfl (v := (vE (⟨(aF (gt b x322)), 0, 0⟩ : Ev))) rfl)
      · intro ξ hφ; exact cp [.blk b5 (cV (gt b x322)) 55] rfl rfl (aS aa55 zz55 rfl rfl rfl (v := (vV (gt b x322))) rfl)
      · intro ξ hφ; exact eg (ec (c8 Tryz.call135 rfl) (kk (gj (gt b x322) (All.gt zb (lJ _)))))
      · intro ξ hφ; exact aq (bG oR rfl rfl (v := (vE (⟨(aH (gt b x322)), 0, 0⟩ : Ev))) rfl)
      · intro ξ hφ; exact iD (ψ := fun v => ∃ b, v = ptr b 0) (B := fun v => [.blk (dQ v) (cE (⟨(⟨(⟨oQ, oQ, false⟩ : GR), false⟩ : Bd), 0, 0⟩ : Ev)) 244]) [.emp] rfl (fun v _ => by simp only [dO, aX] <;> rfl) (fun v hv => by simpa [DF.one, aX] using hv) (gV (gY vv244 rfl))
      · intro ξ hφ; exact iD (ψ := fun v => ∃ b, v = ptr b 0) (B := fun v => [.blk (dQ v) (cE (⟨(⟨(⟨oQ, oQ, false⟩ : GR), false⟩ : Bd), 0, 0⟩ : Ev)) 244]) [.emp] rfl (fun v _ => by simp only [dO, aX] <;> rfl) (fun v hv => by simpa [DF.one, aX] using hv) (gV (gY vv244 rfl))
      · intro ξ hφ; obtain ⟨b6, hb6⟩ := hφ 6 rfl; exact ff [.blk b6 (cE (⟨(⟨(⟨oQ, oQ, false⟩ : GR), false⟩ : Bd), 0, 0⟩ : Ev)) 244] [.blk b6 (cE (⟨(aF (gt b x322)), 0, 0⟩ : Ev)) 244] (congrArg (fun v => [Asn.blk (dQ v) (cE (⟨(⟨(⟨oQ, oQ, false⟩ : GR), false⟩ : Bd), 0, 0⟩ : Ev)) 244]) hb6) (congrArg (fun v => [Asn.blk (dQ v) (cE (⟨(aF (gt b x322)), 0, 0⟩ : Ev)) 244]) hb6) (fp zz244 (Eq.trans rfl (congrArg some hb6)) rfl rfl rfl rfl rfl rfl)
      · intro ξ hφ; obtain ⟨b7, hb7⟩ := hφ 7 rfl; exact ff [.blk b7 (cE (⟨(⟨(⟨oQ, oQ, false⟩ : GR), false⟩ : Bd), 0, 0⟩ : Ev)) 244] [.blk b7 (cE (⟨(aH (gt b x322)), 0, 0⟩ : Ev)) 244] (congrArg (fun v => [Asn.blk (dQ v) (cE (⟨(⟨(⟨oQ, oQ, false⟩ : GR), false⟩ : Bd), 0, 0⟩ : Ev)) 244]) hb7) (congrArg (fun v => [Asn.blk (dQ v) (cE (⟨(aH (gt b x322)), 0, 0⟩ : Ev)) 244]) hb7) (fp zz244 (Eq.trans rfl (congrArg some hb7)) rfl rfl rfl rfl rfl rfl)
      clear h ac wo; intro ξ ac wo hφ h
      replace h : St w0 127 [(2, (.func (.func 122) #[] #[])), (7, l2v), (8, (.int .i64 1)), (23, (.slice (some ⟨b1, 0, none⟩) 2 2)), (24, (.int .i64 2)), (25, (.int .i64 1)), (30, bv), (31, (.int .i64 ((b.length : Nat) : Int))), (32, (.int .i64 ((x322 : Nat) : Int))), (12, ξ 6), (13, ξ 7)] [.blk b5 (cV (gt b x322)) 55, .row (α := Ev) 244 l2v l2, .blk b1 [av, bv] 101, .blk (dQ (ξ 6)) (cE (⟨(aF (gt b x322)), 0, 0⟩ : Ev)) 244, .blk (dQ (ξ 7)) (cE (⟨(aH (gt b x322)), 0, 0⟩ : Ev)) 244] ac wo := (h.pick [0, 1, 2, 3, 4] (by decide)).sub ⟨rfl, rfl, rfl, rfl, rfl, rfl, rfl, rfl, rfl, rfl, rfl, trivial⟩
      revert h
      obtain ⟨b6, hb6⟩ : ∃ b, ξ 6 = ptr b 0 := hφ 6
      obtain ⟨b7, hb7⟩ : ∃ b, ξ 7 = ptr b 0 := hφ 7
      rw [hb6, hb7]; intro h
      clear hb6 hb7
      clear hφ ξ
      refine gz h <| gx hK25 <| gr fun K26 hK26 => g0 (af rfl) rfl <| g0 (af rfl) rfl <| g0 (fa uu244 rfl zz242 rfl rfl rfl (k' := 10)) rfl <| g0 (i6 (i := 1) uu242 zz3 rfl rfl (by decide)) rfl <| gs 3 (cE (⟨(aF (gt b x322)), 0, 1⟩ : Ev)) rfl zz3 rfl rfl rfl rfl rfl rfl rfl <| g0 (fa uu244 rfl zz242 rfl rfl rfl (k' := 10)) rfl <| g0 (i6 (i := 1) uu242 zz3 rfl rfl (by decide)) rfl <| gs 4 (cE (⟨(aH (gt b x322)), 0, (-1)⟩ : Ev)) rfl zz3 rfl rfl rfl rfl rfl rfl rfl <| gn hK26 <| gR <| g0 (af rfl) rfl <| g1 3 rfl (aS aa244 zz244 rfl rfl rfl (v := (vE (⟨(aF (gt b x322)), 0, 1⟩ : Ev))) rfl) rfl <| g1 4 rfl (aS aa244 zz244 rfl rfl rfl (v := (vE (⟨(aH (gt b x322)), 0, (-1)⟩ : Ev))) rfl) rfl ?_; clear h ac wo; intro ac wo h
      refine nw h (cn (α := Ev) (xs := [.tmp 49, .tmp 50]) (vs := [(vE (⟨(aF (gt b x322)), 0, 1⟩ : Ev)), (vE (⟨(aH (gt b x322)), 0, (-1)⟩ : Ev))]) [(⟨(aF (gt b x322)), 0, 1⟩ : Ev), (⟨(aH (gt b x322)), 0, (-1)⟩ : Ev)] n8 rfl rfl rfl (by decide)) rfl ?_; clear h ac wo; intro sv8 ac wo nnsv8 h
      refine on2 h 2 0 rfl rfl (d4 (xs := l2) (ys := [(⟨(aF (gt b x322)), 0, 1⟩ : Ev), (⟨(aH (gt b x322)), 0, (-1)⟩ : Ev)]) n8 (fun w hs => (row_view hs 0 rfl)) rfl rfl (by first | omega | grind)) rfl ?_; clear h ac wo; intro sv9 ac wo apsv9 h
      refine rd0 h (ae rfl) rfl <| gx (fun _ _ => bo) <| gN <| gx hK23 <| gR <| g0 (bt rfl rfl (r := ((x322 + 1 : Nat) : Int)) (by rw [IntKind.wrap_i64]; first | omega | grind)) rfl <| g0 (af rfl) rfl <| gx (fun _ _ => bo) ?_; clear h ac wo; intro ac wo h
      exact aC ⟨m2, (by omega), _, _, _, (by first | omega | grind), bA hL2 (show d6 a b l x32 l2 x322 = .go _ from (cT hc2)), (by first | omega | grind), (All.app zl2 (All.cons s6 (All.cons s7 All.nil))), (by first | omega | grind), (qv hlb2 ⟨⟨by decide, by decide⟩, ⟨by decide, by decide⟩⟩ ⟨⟨by decide, by decide⟩, ⟨by decide, by decide⟩⟩), (h.pick [0, 3] (by decide)).sub ⟨rfl, rfl, rfl, rfl, rfl, rfl, rfl, rfl, rfl, trivial⟩⟩
    · skip
      have hd2 := of_decide_eq_false hc2
      refine dK ?_
      have hx2 := dz hL2 (show d6 a b l x32 l2 x322 = .out (l2, x322) from (cF hc2))
      refine gz h <| gx hK18 <| gR <| g0 (bt rfl rfl (r := 2) (by decide)) rfl <| g0 (af rfl) rfl <| gx (fun _ _ => bo) ?_; clear h ac wo; intro ac wo h
      refine m5 ?_
      refine gz h <| gr fun K27 hK27 => g0 (dk rfl rfl) rfl <| gn hK27 <| gq fun K28 hK28 => ?_; clear h ac wo; intro ac wo h
      refine mO h rfl ?_
      refine gz h <| gE <| gx hK3 <| gr fun K29 hK29 => g0 (af rfl) rfl ?_; clear h ac wo; intro ac wo h
      refine on1 h 0 rfl (kG (vs := [l2v, (.func (.func 177) #[] #[])]) (A := fun v => [.row (α := Ev) 244 l2v (ah l2)]) (c8 Tryz.call176 rfl) (fun w_ B_ hB_ hS_ => iw l2 l2v (by first | omega | grind) zl2 w0 w_ B_ hB_ hS_ )) rfl ?_; clear h ac wo; intro vc ac wo s11 h
      obtain rfl : vc = _ := s11.1
      have p12 := s11.2.2
      refine gz h <| gn hK29 <| gr fun K30 hK30 => g0 (ae rfl) rfl <| gn hK30 <| gr fun K31 hK31 => ga (cJ (⟨0, 0⟩ : I2)) Tryz.zeroValue242 rfl rfl fun b8 => gn hK31 <| gr fun K32 hK32 => ga (cW (⟨(⟨oQ, oQ, false⟩ : GR), false⟩ : Bd)) Tryz.zeroValue203 rfl rfl fun b9 => gn hK32 <| gr fun K33 hK33 => g0 (ae rfl) rfl <| gn hK33 <| gq fun K34 hK34 => gr fun K35 hK35 => g0 (af rfl) rfl ?_; clear h ac wo; intro ac wo h
      refine rd0 h (dp uu240 rfl (h.row_sl 2 rfl)) rfl <| g0 (af rfl) rfl <| gn hK35 <| gB ?_; clear h ac wo; intro ac wo h
      replace h := h.nilRow (α := Iv) 55
      obtain ⟨X3, hX3⟩ : ∃ X, bQ (fun s => bV a b l x32 l2 x322 s.1 s.2.1 s.2.2.1 s.2.2.2.1 s.2.2.2.2) (((ah l2).length - 0) + 1) ([], false, 0, (⟨(⟨oQ, oQ, false⟩ : GR), false⟩ : Bd), (⟨0, 0⟩ : I2)) = X := ⟨_, rfl⟩
      refine wp_loop_ghost (fun n_ a_ w_ => ∃ (out : List Iv) (in_ : Bool) (x59 : Nat) (from_ : Bd) (n : I2) (outv : Value), (((ah l2).length - x59) < n_) ∧ (bQ (fun s => bV a b l x32 l2 x322 s.1 s.2.1 s.2.2.1 s.2.2.2.1 s.2.2.2.2) n_ (out, in_, x59, from_, n) = X3) ∧ (x59 ≤ (ah l2).length) ∧ (All (SzV 30) out) ∧ (SzW 30 from_) ∧ (out.length ≤ x59) ∧ ((-(x59 : Int) ≤ n.n0 ∧ n.n0 ≤ (x59 : Int)) ∧ (-(x59 : Int) ≤ n.n1 ∧ n.n1 ≤ (x59 : Int))) ∧ St w0 127 [(2, (.func (.func 122) #[] #[])), (7, l2v), (14, outv), (15, (ptr b8 0)), (16, (ptr b9 0)), (17, (.bool in_)), (57, l2v), (58, (.int .i64 (((ah l2).length : Nat) : Int))), (59, (.int .i64 ((x59 : Nat) : Int)))] [.row (α := Iv) 55 outv out, .blk b9 (cW from_) 203, .blk b8 (cJ n) 242, .row (α := Ev) 244 l2v (ah l2), .blk b1 [av, bv] 101] a_ w_) (((ah l2).length - 0) + 1) ⟨[], false, 0, (⟨(⟨oQ, oQ, false⟩ : GR), false⟩ : Bd), (⟨0, 0⟩ : I2), (.slice none 0 0), (by omega), hX3, (by first | omega | grind), All.nil, ⟨⟨(cB 0 (by decide) (by omega)), (cB 0 (by decide) (by omega))⟩, ⟨(cB 0 (by decide) (by omega)), (cB 0 (by decide) (by omega))⟩⟩, (by first | omega | grind), ⟨⟨by decide, by decide⟩, ⟨by decide, by decide⟩⟩, (h.sub ⟨rfl, rfl, rfl, rfl, rfl, rfl, rfl, rfl, rfl, trivial⟩)⟩ ?_
      clear h ac wo; rintro n3 ac wo ⟨out, in_, x59, from_, n, outv, hm3, hL3, hx59, zout, zfrom_, hol, hn, h⟩
      obtain ⟨m3, rfl⟩ : ∃ m, n3 = m + 1 := ⟨n3 - 1, by omega⟩
      have hslen : (ah l2).length = l2.length := (kz l2).length_eq
      obtain ⟨⟨he1, he2⟩, ⟨he3, he4⟩⟩ := evb_gt hlb2 x59
      refine gz h <| gr fun K36 hK36 => g0 (dk rfl rfl) rfl <| gn hK36 <| gq fun K37 hK37 => ?_; clear h ac wo; intro ac wo h
      refine dg h rfl (fun hc3 => ?_) (fun hc3 => ?_)
      · skip
        have hd3 := of_decide_eq_true hc3
        refine gz h <| gS <| gx hK37 <| gq fun K38 hK38 => gB <| gr fun K39 hK39 => g0 (af rfl) rfl ?_; clear h ac wo; intro ac wo h
        refine rd0 h (dh (i := x59) uu240 zz244 rfl rfl (h.row_nn 3 rfl (by first | omega | grind)) (by first | omega | grind)) rfl <| g1 3 rfl (dA (k := 0) aa244 zz244 (bi (by first | omega | grind)) rfl (Nat.add_zero _) rfl rfl (v := (vE (gt (ah l2) x59))) rfl) rfl <| ga (cE (⟨(⟨(⟨oQ, oQ, false⟩ : GR), false⟩ : Bd), 0, 0⟩ : Ev)) vv244 rfl rfl fun b10 => g0 (ae rfl) rfl <| gs 0 (cE (gt (ah l2) x59)) rfl zz244 rfl rfl rfl rfl rfl rfl rfl <| gn hK39 <| gq fun K40 hK40 => ?_; clear h ac wo; intro ac wo h
        refine cb mixed [dv _, dw _ [3], dv _, dv _, dw _ [0], dv _, dv _, dw _ [3], dv _, dv _, dw _ [0], dv _, dv _, dw _ [3], dv _, dw _ [3]] [⟨_, []⟩, ⟨_, []⟩, ⟨_, []⟩, ⟨.blk b8 (cJ n) 242, [(13, .con _), (15, .con _)]⟩, ⟨_, []⟩, ⟨_, []⟩] h rfl (by kernel_rfl) ⟨fun _ _ => aq (i6 (i := 0) uu242 zz3 rfl rfl (by decide)), fun _ _ => cp _ rfl rfl (aS aa3 zz3 rfl rfl rfl (v := (.int .i64 n.n0)) rfl), fun _ _ => aq (fa uu244 rfl zz242 rfl rfl rfl (k' := 10)), fun _ _ => aq (i6 (i := 0) uu242 zz3 rfl rfl (by decide)), fun _ _ => cp _ rfl rfl (aS aa3 zz3 rfl rfl rfl (v := (.int .i64 ((gt (ah l2) x59).b0))) rfl), fun _ _ => aq (bt rfl rfl (r := (n.n0 + ((gt (ah l2) x59).b0))) (by rw [IntKind.wrap_i64]; first | omega | grind)), fun _ _ => aq (i6 (i := 1) uu242 zz3 rfl rfl (by decide)), fun _ _ => cp _ rfl rfl (aS aa3 zz3 rfl rfl rfl (v := (.int .i64 n.n1)) rfl), fun _ _ => aq (fa uu244 rfl zz242 rfl rfl rfl (k' := 10)), fun _ _ => aq (i6 (i := 1) uu242 zz3 rfl rfl (by decide)), fun _ _ => cp _ rfl rfl (aS aa3 zz3 rfl rfl rfl (v := (.int .i64 ((gt (ah l2) x59).b1))) rfl), fun _ _ => aq (bt rfl rfl (r := (n.n1 + ((gt (ah l2) x59).b1))) (by rw [IntKind.wrap_i64]; first | omega | grind)), fun _ _ => aq (i6 (i := 0) uu242 zz3 rfl rfl (by decide)), fun _ _ => ff _ [.blk b8 (cJ (⟨(n.n0 + ((gt (ah l2) x59).b0)), n.n1⟩ : I2)) 242] rfl rfl (fp zz3 rfl rfl rfl rfl rfl rfl rfl), fun _ _ => aq (i6 (i := 1) uu242 zz3 rfl rfl (by decide)), fun _ _ => ff _ [.blk b8 (cJ (⟨(n.n0 + ((gt (ah l2) x59).b0)), (n.n1 + ((gt (ah l2) x59).b1))⟩ : I2)) 242] rfl rfl (fp zz3 rfl rfl rfl rfl rfl rfl rfl), trivial⟩ ?_
        clear h ac wo; intro ξ ac wo hφ h
        replace h : St w0 127 [(2, (.func (.func 122) #[] #[])), (7, l2v), (14, outv), (15, (ptr b8 0)), (16, (ptr b9 0)), (17, (.bool in_)), (57, l2v), (58, (.int .i64 (((ah l2).length : Nat) : Int))), (59, (.int .i64 ((x59 : Nat) : Int))), (19, (ptr b10 0)), (18, (.int .i64 ((x59 : Nat) : Int)))] [.blk b10 (cE (gt (ah l2) x59)) 244, .row (α := Iv) 55 outv out, .blk b9 (cW from_) 203, .blk b8 (cJ (⟨(n.n0 + ((gt (ah l2) x59).b0)), (n.n1 + ((gt (ah l2) x59).b1))⟩ : I2)) 242, .row (α := Ev) 244 l2v (ah l2), .blk b1 [av, bv] 101] ac wo := (h.pick [0, 1, 2, 3, 4, 5] (by decide)).sub ⟨rfl, rfl, rfl, rfl, rfl, rfl, rfl, rfl, rfl, rfl, rfl, trivial⟩
        clear hφ ξ
        refine hK40 _ _ ?_
        refine di fun K41 hK41 => ?_
        refine di fun K42 hK42 => ?_
        have s14 := Calls.pr ((fun w_ hB_ hS_ => gf ((gt (ah l2) x59).at_) ((gt (ah l2) (x59 + 1)).at_) (All.gt s11.2.1 (kR _)) (All.gt s11.2.1 (kR _)) w_ ) _ h.bel h.sep)
        have p15 := s14
        refine cb mixed [dv _, dv _, dv _, dv _, dv _, dv _, dv _, dw _ [0], dv _, dv _, dv _, dv _, dv _, dw _ [4], dv _, dv _, dv _] [⟨_, []⟩, ⟨_, []⟩, ⟨_, []⟩, ⟨_, []⟩, ⟨_, []⟩, ⟨_, []⟩] h rfl (by kernel_rfl) ⟨fun _ _ => om rfl, fun _ _ => aq (bt rfl rfl (r := ((x59 + 1 : Nat) : Int)) (by rw [IntKind.wrap_i64]; first | omega | grind)), fun _ _ => om rfl, fun _ _ => aq (dp uu240 rfl (h.row_sl 4 rfl)), fun _ _ => aq (dk rfl rfl), fun _ _ => om rfl, fun _ _ => oh rfl rfl rfl rfl (fun hg => fa uu244 rfl zz203 rfl rfl rfl (k' := 0)), fun _ _ => oh rfl rfl rfl rfl (fun hg => aS aa203 zz203 (an rfl hg) rfl rfl (v := (vW ((gt (ah l2) x59).at_))) rfl), fun _ _ => oh rfl rfl rfl rfl (fun hg => af rfl), fun _ _ => oh rfl rfl rfl rfl (fun hg => af rfl), fun _ _ => oh rfl rfl rfl rfl (fun hg => bt (an rfl hg) rfl (r := ((x59 + 1 : Nat) : Int)) (by rw [IntKind.wrap_i64]; first | omega | (simp at hg; omega) | grind)), fun _ _ => oh rfl rfl rfl rfl (fun hg => dh (i := (x59 + 1)) uu240 zz244 (an rfl hg) (an rfl hg) (h.row_nn 4 rfl (by first | omega | (simp at hg; omega) | grind)) (by first | omega | (simp at hg; omega) | grind)), fun _ _ => oh rfl rfl rfl rfl (fun hg => fs uu244 rfl zz203 rfl (h.row_nn 4 rfl (by first | omega | (simp at hg; omega) | grind)) (an rfl hg) rfl (k' := (x59 + 1) * 12 + 0)), fun _ _ => oh rfl rfl rfl rfl (fun hg => dA (k := 0) aa203 zz203 (bi (by first | omega | (simp at hg; omega) | grind)) (an rfl hg) rfl rfl rfl (v := (vW ((gt (ah l2) (x59 + 1)).at_))) rfl), fun _ _ => og1 rfl rfl rfl rfl (fun hg => ec (c8 Tryz.call134 (bu (an rfl hg) (bu (an rfl hg) rfl))) (kk (gf ((gt (ah l2) x59).at_) ((gt (ah l2) (x59 + 1)).at_) (All.gt s11.2.1 (kR _)) (All.gt s11.2.1 (kR _))))), fun _ _ => oh rfl rfl rfl rfl (fun hg => es (an rfl hg) rfl), fun _ _ => aq (de rfl (fun e => (an rfl e))), trivial⟩ ?_
        clear h ac wo; intro ξ ac wo hφ h
        replace h : St w0 127 [(2, (.func (.func 122) #[] #[])), (7, l2v), (14, outv), (15, (ptr b8 0)), (16, (ptr b9 0)), (17, (.bool in_)), (57, l2v), (58, (.int .i64 (((ah l2).length : Nat) : Int))), (59, (.int .i64 ((x59 : Nat) : Int))), (19, (ptr b10 0)), (94, (.bool ((decide (((x59 + 1 : Nat) : Int) < (((ah l2).length : Nat) : Int))) && ((cK ((gt (ah l2) x59).at_) ((gt (ah l2) (x59 + 1)).at_)) == 0))))] [.blk b10 (cE (gt (ah l2) x59)) 244, .row (α := Iv) 55 outv out, .blk b9 (cW from_) 203, .blk b8 (cJ (⟨(n.n0 + ((gt (ah l2) x59).b0)), (n.n1 + ((gt (ah l2) x59).b1))⟩ : I2)) 242, .row (α := Ev) 244 l2v (ah l2), .blk b1 [av, bv] 101] ac wo := (h.pick [0, 1, 2, 3, 4, 5] (by decide)).sub ⟨rfl, rfl, rfl, rfl, rfl, rfl, rfl, rfl, rfl, rfl, rfl, trivial⟩
        clear hφ ξ
        refine hK42 _ _ ?_
        refine dg h rfl (fun hc4 => ?_) (fun hc4 => ?_)
        · skip
          have hq4 := hc4; try simp at hq4
          refine gz h <| gE <| gx hK38 <| gR <| g0 (bt rfl rfl (r := ((x59 + 1 : Nat) : Int)) (by rw [IntKind.wrap_i64]; first | omega | grind)) rfl <| g0 (af rfl) rfl <| gx (fun _ _ => bo) ?_; clear h ac wo; intro ac wo h
          exact aC ⟨m3, (by omega), _, _, _, _, _, _, (by first | omega | grind), bA hL3 (show bV a b l x32 l2 x322 out in_ x59 from_ n = .go _ from (Eq.trans (cT hc3) (cT hc4))), (by first | omega | grind), zout, zfrom_, (by first | omega | grind), ⟨⟨by simp only; omega, by simp only; omega⟩, ⟨by simp only; omega, by simp only; omega⟩⟩, (h.pick [1, 2, 3, 4, 5] (by decide)).sub ⟨rfl, rfl, rfl, rfl, rfl, rfl, rfl, rfl, rfl, trivial⟩⟩
        · skip
          have hq4 := hc4; try simp at hq4
          refine gz h <| gS <| gx hK41 <| gr fun K43 hK43 => g0 (af rfl) rfl <| g0 (i6 (i := 0) uu242 zz3 rfl rfl (by decide)) rfl <| g1 3 rfl (aS aa3 zz3 rfl rfl rfl (v := (.int .i64 (n.n0 + ((gt (ah l2) x59).b0)))) rfl) rfl <| g0 (iZ rfl rfl) rfl <| g0 (i6 (i := 1) uu242 zz3 rfl rfl (by decide)) rfl <| g1 3 rfl (aS aa3 zz3 rfl rfl rfl (v := (.int .i64 (n.n1 + ((gt (ah l2) x59).b1)))) rfl) rfl <| g0 (iZ rfl rfl) rfl <| gc (np (cap := []) Tryz.call122 rfl rfl) (kk (ja (decide ((n.n0 + ((gt (ah l2) x59).b0)) > 0)) (decide ((n.n1 + ((gt (ah l2) x59).b1)) > 0)))) rfl <| g0 (ae rfl) rfl <| gn hK43 <| gq fun K44 hK44 => gB <| gr fun K45 hK45 => g0 (af rfl) rfl <| g0 (af rfl) rfl <| ge1 rfl rfl (fun hg => (Rd.of_nil (af rfl)).step) rfl <| ge1 rfl rfl (fun hg => (Rd.of_nil (dV (an rfl hg))).step) rfl <| g0 (de rfl (fun e => (an rfl e))) rfl <| g0 (ae rfl) rfl <| gn hK45 ?_; clear h ac wo; intro ac wo h
          refine dg h rfl (fun hc5 => ?_) (fun hc5 => ?_)
          · skip
            have hq5 := hc5; try simp at hq5
            refine gz h <| gR <| g0 (fa uu244 rfl zz203 rfl rfl rfl (k' := 0)) rfl <| g1 0 rfl (aS aa203 zz203 rfl rfl rfl (v := (vW ((gt (ah l2) x59).at_))) rfl) rfl <| gs 2 (cW ((gt (ah l2) x59).at_)) rfl zz203 rfl rfl rfl rfl rfl rfl rfl <| gx (fun _ _ => bo) ?_; clear h ac wo; intro ac wo h
            replace h := h.sub (F' := [(2, (.func (.func 122) #[] #[])), (7, l2v), (14, outv), (15, (ptr b8 0)), (16, (ptr b9 0)), (57, l2v), (58, (.int .i64 (((ah l2).length : Nat) : Int))), (59, (.int .i64 ((x59 : Nat) : Int))), (20, (.bool (aR (decide ((n.n0 + ((gt (ah l2) x59).b0)) > 0)) (decide ((n.n1 + ((gt (ah l2) x59).b1)) > 0)))))]) ⟨rfl, rfl, rfl, rfl, rfl, rfl, rfl, rfl, rfl, trivial⟩
            refine gz h <| gN <| gx hK44 <| gR <| g0 (af rfl) rfl <| g0 (ae rfl) rfl <| gx (fun _ _ => bo) <| gN <| gx hK38 <| gR <| g0 (bt rfl rfl (r := ((x59 + 1 : Nat) : Int)) (by rw [IntKind.wrap_i64]; first | omega | grind)) rfl <| g0 (af rfl) rfl <| gx (fun _ _ => bo) ?_; clear h ac wo; intro ac wo h
            exact aC ⟨m3, (by omega), _, _, _, _, _, _, (by first | omega | grind), bA hL3 (show bV a b l x32 l2 x322 out in_ x59 from_ n = .go _ from (Eq.trans (cT hc3) (Eq.trans (cF hc4) (cT hc5)))), (by first | omega | grind), zout, (All.gt s11.2.1 (kR _)), (by first | omega | grind), ⟨⟨by simp only; omega, by simp only; omega⟩, ⟨by simp only; omega, by simp only; omega⟩⟩, (h.pick [1, 2, 3, 4, 5] (by decide)).sub ⟨rfl, rfl, rfl, rfl, rfl, rfl, rfl, rfl, rfl, trivial⟩⟩
          · skip
            have hq5 := hc5; try simp at hq5
            refine gz h <| gr fun K46 hK46 => g0 (af rfl) rfl <| g0 (dV rfl) rfl <| g0 (af rfl) rfl <| ge1 rfl rfl (fun hg => (Rd.of_nil (af rfl)).step) rfl <| g0 (de rfl (fun e => (an rfl e))) rfl <| g0 (ae rfl) rfl <| gn hK46 ?_; clear h ac wo; intro ac wo h
            replace h := h.sub (F' := [(2, (.func (.func 122) #[] #[])), (7, l2v), (14, outv), (15, (ptr b8 0)), (16, (ptr b9 0)), (57, l2v), (58, (.int .i64 (((ah l2).length : Nat) : Int))), (59, (.int .i64 ((x59 : Nat) : Int))), (19, (ptr b10 0)), (20, (.bool (aR (decide ((n.n0 + ((gt (ah l2) x59).b0)) > 0)) (decide ((n.n1 + ((gt (ah l2) x59).b1)) > 0))))), (111, (.bool ((!(aR (decide ((n.n0 + ((gt (ah l2) x59).b0)) > 0)) (decide ((n.n1 + ((gt (ah l2) x59).b1)) > 0)))) && in_)))]) ⟨rfl, rfl, rfl, rfl, rfl, rfl, rfl, rfl, rfl, rfl, rfl, trivial⟩
            refine dg h rfl (fun hc6 => ?_) (fun hc6 => ?_)
            · skip
              have hq6 := hc6; try simp at hq6
              have c16 := ko from_ ((gt (ah l2) x59).at_) zfrom_ (All.gt s11.2.1 (kR _))
              have s16 := Calls.pr (c16 w0)
              refine gz h <| gR <| g0 (af rfl) rfl <| g1 2 rfl (aS aa203 zz203 rfl rfl rfl (v := (vW from_)) rfl) rfl <| g0 (fa uu244 rfl zz203 rfl rfl rfl (k' := 0)) rfl <| g1 0 rfl (aS aa203 zz203 rfl rfl rfl (v := (vW ((gt (ah l2) x59).at_))) rfl) rfl <| gc (c8 Tryz.call178 rfl) (kk c16) rfl ?_; clear h ac wo; intro ac wo h
              refine nw h (cn (α := Iv) (xs := [.tmp 121]) (vs := [(vV (cY from_ ((gt (ah l2) x59).at_)))]) [(cY from_ ((gt (ah l2) x59).at_))] ob rfl rfl rfl (by decide)) rfl ?_; clear h ac wo; intro sv17 ac wo nnsv17 h
              refine on2 h 2 0 rfl rfl (d4 (xs := out) (ys := [(cY from_ ((gt (ah l2) x59).at_))]) ob (fun w hs => (row_view hs 0 rfl)) rfl rfl (by first | omega | grind)) rfl ?_; clear h ac wo; intro sv18 ac wo apsv18 h
              refine rd0 h (ae rfl) rfl <| gx (fun _ _ => bo) <| gN <| gx hK44 <| gR <| g0 (af rfl) rfl <| g0 (ae rfl) rfl <| gx (fun _ _ => bo) <| gN <| gx hK38 <| gR <| g0 (bt rfl rfl (r := ((x59 + 1 : Nat) : Int)) (by rw [IntKind.wrap_i64]; first | omega | grind)) rfl <| g0 (af rfl) rfl <| gx (fun _ _ => bo) ?_; clear h ac wo; intro ac wo h
              exact aC ⟨m3, (by omega), _, _, _, _, _, _, (by first | omega | grind), bA hL3 (show bV a b l x32 l2 x322 out in_ x59 from_ n = .go _ from (Eq.trans (cT hc3) (Eq.trans (cF hc4) (Eq.trans (cF hc5) (cT hc6))))), (by first | omega | grind), (All.app zout (All.cons s16 All.nil)), zfrom_, (by first | omega | grind), ⟨⟨by simp only; omega, by simp only; omega⟩, ⟨by simp only; omega, by simp only; omega⟩⟩, (h.pick [0, 3, 4, 5, 6] (by decide)).sub ⟨rfl, rfl, rfl, rfl, rfl, rfl, rfl, rfl, rfl, trivial⟩⟩
            · skip
              have hq6 := hc6; try simp at hq6
              refine gz h <| gS <| gN <| gx hK44 <| gR <| g0 (af rfl) rfl <| g0 (ae rfl) rfl <| gx (fun _ _ => bo) <| gN <| gx hK38 <| gR <| g0 (bt rfl rfl (r := ((x59 + 1 : Nat) : Int)) (by rw [IntKind.wrap_i64]; first | omega | grind)) rfl <| g0 (af rfl) rfl <| gx (fun _ _ => bo) ?_; clear h ac wo; intro ac wo h
              exact aC ⟨m3, (by omega), _, _, _, _, _, _, (by first | omega | grind), bA hL3 (show bV a b l x32 l2 x322 out in_ x59 from_ n = .go _ from (Eq.trans (cT hc3) (Eq.trans (cF hc4) (Eq.trans (cF hc5) (cF hc6))))), (by first | omega | grind), zout, zfrom_, (by first | omega | grind), ⟨⟨by simp only; omega, by simp only; omega⟩, ⟨by simp only; omega, by simp only; omega⟩⟩, (h.pick [1, 2, 3, 4, 5] (by decide)).sub ⟨rfl, rfl, rfl, rfl, rfl, rfl, rfl, rfl, rfl, trivial⟩⟩
      · skip
        have hd3 := of_decide_eq_false hc3
        refine dK ?_
        have hx3 := dz hL3 (show bV a b l x32 l2 x322 out in_ x59 from_ n = .out (out, in_, x59, from_, n) from (cF hc3))
        refine gz h <| gx hK34 <| gr fun K47 hK47 => g0 (af rfl) rfl <| g0 (ae rfl) rfl <| gn hK47 <| gT ?_; clear h ac wo; intro ac wo h
        have hd : ep a b = out := (Eq.trans (ew (hX1.trans hx1)) (Eq.trans (ew (hX2.trans hx2)) (ew (hX3.trans hx3))))
        exact ret h rfl (.tmp rfl .nil) rfl (by rw [hd]; exact h.retR 0 rfl ⟨zout, (by first | omega | grind)⟩)
attribute [irreducible] ep
def aZ (a : List Iv) (b : List Iv) : (List Iv) :=
 (ep a b)
theorem jF (a : List Iv) (av : Value) (b : List Iv) (bv : Value) (hla : a.length + b.length ≤ 6) (za : All (SzV 30) a) (zb : All (SzV 30) b) (w0 : World) (hav : View w0 av a) (hbv : View w0 bv b) : Calls Tryz.prog 55 #[av, bv] w0 (RetR w0 55 (aZ a b) (All (SzV 30) (aZ a b) ∧ (aZ a b).length ≤ 12)) := by
 refine enter (N := 8) (args := [av, bv]) Tryz.func55 rfl rfl ?_; intro ac h
 have hlena := hav.len
 have hlenb := hbv.len
 refine d8 fun K1 hK1 => ?_
 refine rd0 h (ae rfl) rfl <| gn hK1 <| gr fun K2 hK2 => g0 (af rfl) rfl <| g0 (af rfl) rfl ?_; clear h ac; intro ac wo h
 have s1 := RetR.pr ((fun w_ hB_ hS_ => iA a av b bv (by first | omega | grind) za zb w_ (hav.below hB_) (hbv.below hB_)) _ h.bel h.sep)
 have p2 := s1.2
 refine j9 (xs := (ep a b)) h (c8 Tryz.call121 rfl) (fun w_ hB_ hS_ => iA a av b bv (by first | omega | grind) za zb w_ (hav.below hB_) (hbv.below hB_)) rfl ?_; clear h ac wo; intro sv3 ac wo _ h
 refine rd0 h (ae rfl) rfl <| gn hK2 <| gT ?_; clear h ac wo; intro ac wo h
 exact ret h rfl (.tmp rfl .nil) rfl (by unfold aZ; exact h.retR 0 rfl ⟨s1.1, (by first | omega | grind)⟩)
attribute [irreducible] aZ
end Go.Sx
namespace Go.Sx
open Go Go.RowKit Go.Proofs
set_option maxRecDepth 100000
set_option maxHeartbeats 40000000
attribute [local irreducible] ao bU aj az bE aP aE aA dG cj aQ
theorem slt99 : SlT Tryz.prog 99 104 33 368 [.bool false, .string ⟨#[]⟩, .bool false, .string ⟨#[]⟩, .bool false, .string ⟨#[]⟩, .bool false, .string ⟨#[]⟩, .bool false, .bool false, .string ⟨#[]⟩, .bool false, .string ⟨#[]⟩, .bool false, .string ⟨#[]⟩, .bool false, .string ⟨#[]⟩, .bool false, .bool false, .bool false, .bool false, .string ⟨#[]⟩, .bool false, .string ⟨#[]⟩, .bool false, .string ⟨#[]⟩, .bool false, .string ⟨#[]⟩, .bool false, .string ⟨#[]⟩, .bool false, .string ⟨#[]⟩, .int .i64 0] := ⟨Tryz.underlying99, Tryz.t104, _, Tryz.type104, rfl, rfl, rfl, rfl, rfl, by decide, by decide⟩
def gK (a : List (U Qd)) (b : List (U Int)) (out : List (Bt Qd Int)) (i : Nat) (k1 : Nat) : (List (Bt Qd Int)) :=
 out
def dr (a : List (U Qd)) (b : List (U Int)) (out : List (Bt Qd Int)) (i : Nat) (k1 : Nat) : Nx ((List (Bt Qd Int)) × Nat × Nat) (List (Bt Qd Int)) :=
 bif ((decide (((i : Nat) : Int) < ((a.length : Nat) : Int))) && (decide (((k1 : Nat) : Int) < ((b.length : Nat) : Int)))) then
  bif (aU ((gt a i).iv) ((gt b k1).iv)).2 then
   bif (dc ((gt a i).iv) ((gt b k1).iv)) then
    .go ((out ++ [(⟨(aU ((gt a i).iv) ((gt b k1).iv)).1, (gt a i).f, (gt b k1).f⟩ : Bt Qd Int)]), (i + 1), k1)
   else
    .go ((out ++ [(⟨(aU ((gt a i).iv) ((gt b k1).iv)).1, (gt a i).f, (gt b k1).f⟩ : Bt Qd Int)]), i, (k1 + 1))
  else
   bif (dc ((gt a i).iv) ((gt b k1).iv)) then
    .go (out, (i + 1), k1)
   else
    .go (out, i, (k1 + 1))
 else
  .out (out, i, k1)
def ca (a : List (U Qd)) (b : List (U Int)) : (List (Bt Qd Int)) :=
 fin (bQ (fun s => dr a b s.1 s.2.1 s.2.2) ((a.length - 0) + (b.length - 0) + 1) ([], 0, 0)) (fun s => gK a b s.1 s.2.1 s.2.2) (fun r => r)
theorem gJ (a : List (U Qd)) (av : Value) (b : List (U Int)) (bv : Value) (hla : a.length ≤ 100) (hlb : b.length ≤ 100) (za : All (i3 30) a) (zb : All (SzUI 30) b) (w0 : World) (hav : View w0 av a) (hbv : View w0 bv b) : Calls Tryz.prog 54 #[av, bv] w0 (RetR w0 104 (ca a b) (All (SzBI 10) (ca a b) ∧ (ca a b).length ≤ a.length + b.length)) := by
 refine enter (N := 66) (args := [av, bv]) Tryz.func54 rfl rfl ?_; intro ac h
 have hlena := hav.len
 have hlenb := hbv.len
 refine d8 fun K1 hK1 => ?_
 refine rd0 h (ae rfl) rfl <| gn hK1 <| gr fun K2 hK2 => g0 (ae rfl) rfl <| gn hK2 <| gq fun K3 hK3 => gr fun K4 hK4 => g0 (ae rfl) rfl <| g0 (ae rfl) rfl <| gn hK4 <| gB ?_; clear h ac; intro ac wo h
 replace h := h.nilRow (α := Bt Qd Int) 104
 obtain ⟨X1, hX1⟩ : ∃ X, bQ (fun s => dr a b s.1 s.2.1 s.2.2) ((a.length - 0) + (b.length - 0) + 1) ([], 0, 0) = X := ⟨_, rfl⟩
 refine wp_loop_ghost (fun n_ a_ w_ => ∃ (out : List (Bt Qd Int)) (i : Nat) (k1 : Nat) (outv : Value), ((a.length - i) + (b.length - k1) < n_) ∧ (bQ (fun s => dr a b s.1 s.2.1 s.2.2) n_ (out, i, k1) = X1) ∧ (k1 ≤ b.length) ∧ (i ≤ a.length) ∧ (All (SzBI 10) out) ∧ (out.length ≤ i + k1) ∧ St w0 66 [(0, av), (1, bv), (5, outv), (6, (.int .i64 ((i : Nat) : Int))), (7, (.int .i64 ((k1 : Nat) : Int)))] [.row (α := Bt Qd Int) 104 outv out] a_ w_) ((a.length - 0) + (b.length - 0) + 1) ⟨[], 0, 0, (.slice none 0 0), (by omega), hX1, (by first | omega | grind), (by first | omega | grind), All.nil, (by first | omega | grind), (h.sub ⟨rfl, rfl, rfl, rfl, rfl, trivial⟩)⟩ ?_
 clear h ac wo; rintro n1 ac wo ⟨out, i, k1, outv, hm1, hL1, hk1, hi, zout, hol, h⟩
 obtain ⟨m1, rfl⟩ : ∃ m, n1 = m + 1 := ⟨n1 - 1, by omega⟩
 refine gz h <| gq fun K5 hK5 => gr fun K6 hK6 => g0 (af rfl) rfl <| g0 (af rfl) rfl <| g0 (dp uu24 rfl hav.sl) rfl <| g0 (dk rfl rfl) rfl <| g0 (af rfl) rfl <| ge1 rfl rfl (fun hg => (Rd.of_nil (af rfl)).step) rfl <| ge1 rfl rfl (fun hg => (Rd.of_nil (af rfl)).step) rfl <| ge1 rfl rfl (fun hg => (Rd.of_nil (dp uu26 (an rfl hg) hbv.sl)).step) rfl <| ge1 rfl rfl (fun hg => (Rd.of_nil (dk (an rfl hg) (an rfl hg))).step) rfl <| g0 (de rfl (fun e => (an rfl e))) rfl <| gn hK6 ?_; clear h ac wo; intro ac wo h
 refine dg h rfl (fun hc1 => ?_) (fun hc1 => ?_)
 ·
  have hq1 := hc1; try simp at hq1
  refine dI ?_
  refine hK5 _ _ ?_
  refine eX ?_
  refine di fun K7 hK7 => ?_
  refine di fun K8 hK8 => ?_
  have s2 := ax ((jr ((gt a i).iv) ((gt b k1).iv) 10 (by omega) (All.gt za (bW _)).1 (All.gt zb (ji _))) w0)
  replace h := h.emps 1
  refine cb mixed [dv _, dv _, dv _, dv _, dv _, dv _, dv _, dv _, dv _, dv _, dv _, dv _, dv _, dv _, ⟨.nd (.one 14 fun v => ∃ b, v = ptr b 0), [1]⟩, ⟨.det undef, [1]⟩, dv _] [⟨_, []⟩, ⟨.emp, [(14, .one 14 fun v => .blk (dQ v) (cV (⟨(⟨oQ, oQ, false⟩ : GR), (⟨oQ, oQ, false⟩ : GR), false, false⟩ : Iv)) 55), (15, .one 14 fun v => .blk (dQ v) (cV ((aU ((gt a i).iv) ((gt b k1).iv)).1)) 55)]⟩] h rfl (by kernel_rfl) ⟨fun _ _ => om rfl, fun _ _ => om rfl, fun _ _ => aq (dh (i := i) uu24 zz87 rfl rfl (hav.nn (i := i) (by first | omega | grind)) (by first | omega | grind)), fun _ _ => aq (fs uu87 rfl zz55 rfl (hav.nn (i := 0) (by first | omega | grind)) rfl rfl (k' := i * 32 + 0)), fun _ _ => aq (dX (k := 0) aa55 zz55 hav (bi (by first | omega | grind)) rfl rfl rfl rfl (v := (vV ((gt a i).iv))) rfl), fun _ _ => om rfl, fun _ _ => om rfl, fun _ _ => aq (dh (i := k1) uu26 zz57 rfl rfl (hbv.nn (i := k1) (by first | omega | grind)) (by first | omega | grind)), fun _ _ => aq (fs uu57 rfl zz55 rfl (hbv.nn (i := 0) (by first | omega | grind)) rfl rfl (k' := k1 * 21 + 0)), fun _ _ => aq (dX (k := 0) aa55 zz55 hbv (bi (by first | omega | grind)) rfl rfl rfl rfl (v := (vV ((gt b k1).iv))) rfl), fun _ _ => eg (ec (c8 Tryz.call119 rfl) (kk (jr ((gt a i).iv) ((gt b k1).iv) 10 (by omega) (All.gt za (bW _)).1 (All.gt zb (ji _))))), fun _ _ => om rfl, fun _ _ => aq (bR rfl rfl), fun _ _ => aq (bR rfl rfl), fun _ _ => iD (ψ := fun v => ∃ b, v = ptr b 0) (B := fun v => [.blk (dQ v) (cV (⟨(⟨oQ, oQ, false⟩ : GR), (⟨oQ, oQ, false⟩ : GR), false, false⟩ : Iv)) 55]) [.emp] rfl (fun v _ => by simp only [dO, aX] <;> rfl) (fun v hv => by simpa [DF.one, aX] using hv) (gV (gY vv55 rfl)), (fun ξ hφ => by obtain ⟨b1, hb14⟩ := hφ 14 rfl; exact ff [.blk b1 (cV (⟨(⟨oQ, oQ, false⟩ : GR), (⟨oQ, oQ, false⟩ : GR), false, false⟩ : Iv)) 55] [.blk b1 (cV ((aU ((gt a i).iv) ((gt b k1).iv)).1)) 55] (congrArg (fun v => [Asn.blk (dQ v) (cV (⟨(⟨oQ, oQ, false⟩ : GR), (⟨oQ, oQ, false⟩ : GR), false, false⟩ : Iv)) 55]) hb14) (congrArg (fun v => [Asn.blk (dQ v) (cV ((aU ((gt a i).iv) ((gt b k1).iv)).1)) 55]) hb14) (fp zz55 (Eq.trans rfl (congrArg some hb14)) rfl rfl rfl rfl rfl rfl)), fun _ _ => aq (ae rfl), trivial⟩ ?_
  clear h ac wo; intro ξ ac wo hφ h
  replace h : St w0 66 [(0, av), (1, bv), (5, outv), (6, (.int .i64 ((i : Nat) : Int))), (7, (.int .i64 ((k1 : Nat) : Int))), (8, ξ 14), (9, (.bool ((aU ((gt a i).iv) ((gt b k1).iv)).2)))] [.row (α := Bt Qd Int) 104 outv out, .blk (dQ (ξ 14)) (cV ((aU ((gt a i).iv) ((gt b k1).iv)).1)) 55] ac wo := (h.pick [0, 1] (by decide)).sub ⟨rfl, rfl, rfl, rfl, rfl, rfl, rfl, trivial⟩
  revert h
  obtain ⟨b1, hb14⟩ : ∃ b, ξ 14 = ptr b 0 := hφ 14
  rw [hb14]; intro h
  clear hb14
  clear hφ ξ
  refine gz h <| gx hK8 <| gr fun K9 hK9 => g0 (af rfl) rfl <| gn hK9 ?_; clear h ac wo; intro ac wo h
  refine dg h rfl (fun hc2 => ?_) (fun hc2 => ?_)
  ·
   have hq2 := hc2; try simp at hq2
   replace h := h.emps 1
   refine cb mixed [dv _, dw _ [1], dv _, dv _, dv _, dv _, dv _, dv _, dv _, dv _, dv _, dv _, dv _, ⟨.nd (.one 13 fun v => NN v 1), [2]⟩, ⟨.nd (.con True), [0, 2]⟩, ⟨.nd (.two 15 14 fun a b => a = b), []⟩] [⟨.row (α := Bt Qd Int) 104 outv out, [(14, .one 14 fun v => .row (α := Bt Qd Int) 104 v (out ++ [(⟨(aU ((gt a i).iv) ((gt b k1).iv)).1, (gt a i).f, (gt b k1).f⟩ : Bt Qd Int)]))]⟩, ⟨_, []⟩, ⟨.emp, [(13, .one 13 fun v => .row (α := Bt Qd Int) 104 v ([(⟨(aU ((gt a i).iv) ((gt b k1).iv)).1, (gt a i).f, (gt b k1).f⟩ : Bt Qd Int)]))]⟩] h rfl (by kernel_rfl) ⟨fun _ _ => om rfl, fun _ _ => cp _ rfl rfl (aS aa55 zz55 rfl rfl rfl (v := (vV ((aU ((gt a i).iv) ((gt b k1).iv)).1))) rfl), fun _ _ => om rfl, fun _ _ => om rfl, fun _ _ => aq (dh (i := i) uu24 zz87 rfl rfl (hav.nn (i := i) (by first | omega | grind)) (by first | omega | grind)), fun _ _ => aq (fs uu87 rfl Tryz.sizeOf69 rfl (hav.nn (i := 0) (by first | omega | grind)) rfl rfl (k' := i * 32 + 20)), fun _ _ => aq (dX (k := 20) Tryz.isAgg69 Tryz.sizeOf69 hav (bi (by first | omega | grind)) rfl rfl rfl rfl (v := (vD ((gt a i).f))) rfl), fun _ _ => om rfl, fun _ _ => om rfl, fun _ _ => aq (dh (i := k1) uu26 zz57 rfl rfl (hbv.nn (i := k1) (by first | omega | grind)) (by first | omega | grind)), fun _ _ => aq (fs uu57 rfl zz3 rfl (hbv.nn (i := 0) (by first | omega | grind)) rfl rfl (k' := k1 * 21 + 20)), fun _ _ => aq (dX (k := 20) aa3 zz3 hbv (bi (by first | omega | grind)) rfl rfl rfl rfl (v := (.int .i64 ((gt b k1).f))) rfl), fun _ _ => aq (bG bld104 rfl rfl (v := (vBI (⟨(aU ((gt a i).iv) ((gt b k1).iv)).1, (gt a i).f, (gt b k1).f⟩ : Bt Qd Int))) rfl), fun _ _ => iD (ψ := fun v => NN v 1) (B := fun v => [.row (α := Bt Qd Int) 104 v ([(⟨(aU ((gt a i).iv) ((gt b k1).iv)).1, (gt a i).f, (gt b k1).f⟩ : Bt Qd Int)])]) [.emp] rfl (fun v _ => by simp only [dO, aX] <;> rfl) (fun v hv => by simpa [DF.one, aX] using hv) (gV (cn (α := Bt Qd Int) (xs := [.tmp 47]) (vs := [(vBI (⟨(aU ((gt a i).iv) ((gt b k1).iv)).1, (gt a i).f, (gt b k1).f⟩ : Bt Qd Int))]) [(⟨(aU ((gt a i).iv) ((gt b k1).iv)).1, (gt a i).f, (gt b k1).f⟩ : Bt Qd Int)] slt99 rfl rfl rfl (by decide))), fun ξ hφ => iD (B := fun v => [.row (α := Bt Qd Int) 104 v (out ++ [(⟨(aU ((gt a i).iv) ((gt b k1).iv)).1, (gt a i).f, (gt b k1).f⟩ : Bt Qd Int)]), .row (α := Bt Qd Int) 104 (ξ 13) ([(⟨(aU ((gt a i).iv) ((gt b k1).iv)).1, (gt a i).f, (gt b k1).f⟩ : Bt Qd Int)])]) [.row (α := Bt Qd Int) 104 outv out, .row (α := Bt Qd Int) 104 (ξ 13) ([(⟨(aU ((gt a i).iv) ((gt b k1).iv)).1, (gt a i).f, (gt b k1).f⟩ : Bt Qd Int)])] rfl (fun v _ => by simp only [dO, aX] <;> rfl) (fun _ _ => trivial) (d4 (xs := out) (ys := [(⟨(aU ((gt a i).iv) ((gt b k1).iv)).1, (gt a i).f, (gt b k1).f⟩ : Bt Qd Int)]) slt99 (fun w hs => (row_view hs 0 rfl)) rfl rfl (by first | omega | grind)), fun ξ hφ => o8 (φ := .two 15 14 fun a b => a = b) (v := ξ 14) [] rfl rfl (by show upd ξ 15 (ξ 14) 15 = upd ξ 15 (ξ 14) 14; rw [aX, fO (by decide)]) (ae rfl), trivial⟩ ?_
   clear h ac wo; intro ξ ac wo hφ h
   replace h : St w0 66 [(0, av), (1, bv), (5, ξ 15), (6, (.int .i64 ((i : Nat) : Int))), (7, (.int .i64 ((k1 : Nat) : Int)))] [.row (α := Bt Qd Int) 104 (ξ 14) (out ++ [(⟨(aU ((gt a i).iv) ((gt b k1).iv)).1, (gt a i).f, (gt b k1).f⟩ : Bt Qd Int)]), .blk b1 (cV ((aU ((gt a i).iv) ((gt b k1).iv)).1)) 55] ac wo := (h.pick [0, 1] (by decide)).sub ⟨rfl, rfl, rfl, rfl, rfl, trivial⟩
   rw [show ξ 15 = ξ 14 from hφ 15] at h
   generalize hsv14 : ξ 14 = sv3 at h; clear hsv14
   clear hφ ξ
   refine hK7 _ _ ?_
   refine di fun K10 hK10 => ?_
   refine cb mixed [dv _, dv _, dv _, dv _, dv _, dv _, dv _, dv _, dv _, dv _, dv _] [⟨_, []⟩, ⟨_, []⟩] h rfl (by kernel_rfl) ⟨fun _ _ => om rfl, fun _ _ => om rfl, fun _ _ => aq (dh (i := i) uu24 zz87 rfl rfl (hav.nn (i := i) (by first | omega | grind)) (by first | omega | grind)), fun _ _ => aq (fs uu87 rfl zz55 rfl (hav.nn (i := 0) (by first | omega | grind)) rfl rfl (k' := i * 32 + 0)), fun _ _ => aq (dX (k := 0) aa55 zz55 hav (bi (by first | omega | grind)) rfl rfl rfl rfl (v := (vV ((gt a i).iv))) rfl), fun _ _ => om rfl, fun _ _ => om rfl, fun _ _ => aq (dh (i := k1) uu26 zz57 rfl rfl (hbv.nn (i := k1) (by first | omega | grind)) (by first | omega | grind)), fun _ _ => aq (fs uu57 rfl zz55 rfl (hbv.nn (i := 0) (by first | omega | grind)) rfl rfl (k' := k1 * 21 + 0)), fun _ _ => aq (dX (k := 0) aa55 zz55 hbv (bi (by first | omega | grind)) rfl rfl rfl rfl (v := (vV ((gt b k1).iv))) rfl), fun _ _ => eg (ec (c8 Tryz.call120 rfl) (kk (g7 ((gt a i).iv) ((gt b k1).iv) 10 (by omega) (All.gt za (bW _)).1 (All.gt zb (ji _))))), trivial⟩ ?_
   clear h ac wo; intro ξ ac wo hφ h
   replace h : St w0 66 [(0, av), (1, bv), (5, sv3), (6, (.int .i64 ((i : Nat) : Int))), (7, (.int .i64 ((k1 : Nat) : Int))), (60, (.bool (dc ((gt a i).iv) ((gt b k1).iv))))] [.row (α := Bt Qd Int) 104 sv3 (out ++ [(⟨(aU ((gt a i).iv) ((gt b k1).iv)).1, (gt a i).f, (gt b k1).f⟩ : Bt Qd Int)]), .blk b1 (cV ((aU ((gt a i).iv) ((gt b k1).iv)).1)) 55] ac wo := (h.pick [0, 1] (by decide)).sub ⟨rfl, rfl, rfl, rfl, rfl, rfl, trivial⟩
   clear hφ ξ
   refine hK10 _ _ ?_
   refine dg h rfl (fun hc3 => ?_) (fun hc3 => ?_)
   ·
    have hq3 := hc3; try simp at hq3
    refine gz h <| gR <| g0 (af rfl) rfl <| g0 (bt rfl rfl (r := ((i + 1 : Nat) : Int)) (by rw [IntKind.wrap_i64]; first | omega | grind)) rfl <| g0 (ae rfl) rfl <| gx (fun _ _ => bo) <| gN ?_; clear h ac wo; intro ac wo h
    exact aC ⟨m1, (by omega), _, _, _, _, (by first | omega | grind), bA hL1 (show dr a b out i k1 = .go _ from (Eq.trans (cT hc1) (Eq.trans (cT hc2) (cT hc3)))), (by first | omega | grind), (by first | omega | grind), (All.app zout (All.cons ⟨s2, (cL (All.gt za (bW _)).2 (by omega))⟩ All.nil)), (by first | omega | grind), (h.pick [0] (by decide)).sub ⟨rfl, rfl, rfl, rfl, rfl, trivial⟩⟩
   ·
    have hq3 := hc3; try simp at hq3
    refine gz h <| gR <| g0 (af rfl) rfl <| g0 (bt rfl rfl (r := ((k1 + 1 : Nat) : Int)) (by rw [IntKind.wrap_i64]; first | omega | grind)) rfl <| g0 (ae rfl) rfl <| gx (fun _ _ => bo) <| gN ?_; clear h ac wo; intro ac wo h
    exact aC ⟨m1, (by omega), _, _, _, _, (by first | omega | grind), bA hL1 (show dr a b out i k1 = .go _ from (Eq.trans (cT hc1) (Eq.trans (cT hc2) (cF hc3)))), (by first | omega | grind), (by first | omega | grind), (All.app zout (All.cons ⟨s2, (cL (All.gt za (bW _)).2 (by omega))⟩ All.nil)), (by first | omega | grind), (h.pick [0] (by decide)).sub ⟨rfl, rfl, rfl, rfl, rfl, trivial⟩⟩
  ·
   have hq2 := hc2; try simp at hq2
   refine dI ?_
   refine hK7 _ _ ?_
   refine di fun K11 hK11 => ?_
   refine cb mixed [dv _, dv _, dv _, dv _, dv _, dv _, dv _, dv _, dv _, dv _, dv _] [⟨_, []⟩, ⟨_, []⟩] h rfl (by kernel_rfl) ⟨fun _ _ => om rfl, fun _ _ => om rfl, fun _ _ => aq (dh (i := i) uu24 zz87 rfl rfl (hav.nn (i := i) (by first | omega | grind)) (by first | omega | grind)), fun _ _ => aq (fs uu87 rfl zz55 rfl (hav.nn (i := 0) (by first | omega | grind)) rfl rfl (k' := i * 32 + 0)), fun _ _ => aq (dX (k := 0) aa55 zz55 hav (bi (by first | omega | grind)) rfl rfl rfl rfl (v := (vV ((gt a i).iv))) rfl), fun _ _ => om rfl, fun _ _ => om rfl, fun _ _ => aq (dh (i := k1) uu26 zz57 rfl rfl (hbv.nn (i := k1) (by first | omega | grind)) (by first | omega | grind)), fun _ _ => aq (fs uu57 rfl zz55 rfl (hbv.nn (i := 0) (by first | omega | grind)) rfl rfl (k' := k1 * 21 + 0)), fun _ _ => aq (dX (k := 0) aa55 zz55 hbv (bi (by first | omega | grind)) rfl rfl rfl rfl (v := (vV ((gt b k1).iv))) rfl), fun _ _ => eg (ec (c8 Tryz.call120 rfl) (kk (g7 ((gt a i).iv) ((gt b k1).iv) 10 (by omega) (All.gt za (bW _)).1 (All.gt zb (ji _))))), trivial⟩ ?_
   clear h ac wo; intro ξ ac wo hφ h
   replace h : St w0 66 [(0, av), (1, bv), (5, outv), (6, (.int .i64 ((i : Nat) : Int))), (7, (.int .i64 ((k1 : Nat) : Int))), (60, (.bool (dc ((gt a i).iv) ((gt b k1).iv))))] [.row (α := Bt Qd Int) 104 outv out, .blk b1 (cV ((aU ((gt a i).iv) ((gt b k1).iv)).1)) 55] ac wo := (h.pick [0, 1] (by decide)).sub ⟨rfl, rfl, rfl, rfl, rfl, rfl, trivial⟩
   clear hφ ξ
   refine hK11 _ _ ?_
   refine dg h rfl (fun hc4 => ?_) (fun hc4 => ?_)
   ·
    have hq4 := hc4; try simp at hq4
    refine gz h <| gR <| g0 (af rfl) rfl <| g0 (bt rfl rfl (r := ((i + 1 : Nat) : Int)) (by rw [IntKind.wrap_i64]; first | omega | grind)) rfl <| g0 (ae rfl) rfl <| gx (fun _ _ => bo) <| gN ?_; clear h ac wo; intro ac wo h
    exact aC ⟨m1, (by omega), _, _, _, _, (by first | omega | grind), bA hL1 (show dr a b out i k1 = .go _ from (Eq.trans (cT hc1) (Eq.trans (cF hc2) (cT hc4)))), (by first | omega | grind), (by first | omega | grind), zout, (by first | omega | grind), (h.pick [0] (by decide)).sub ⟨rfl, rfl, rfl, rfl, rfl, trivial⟩⟩
   ·
    have hq4 := hc4; try simp at hq4
    refine gz h <| gR <| g0 (af rfl) rfl <| g0 (bt rfl rfl (r := ((k1 + 1 : Nat) : Int)) (by rw [IntKind.wrap_i64]; first | omega | grind)) rfl <| g0 (ae rfl) rfl <| gx (fun _ _ => bo) <| gN ?_; clear h ac wo; intro ac wo h
    exact aC ⟨m1, (by omega), _, _, _, _, (by first | omega | grind), bA hL1 (show dr a b out i k1 = .go _ from (Eq.trans (cT hc1) (Eq.trans (cF hc2) (cF hc4)))), (by first | omega | grind), (by first | omega | grind), zout, (by first | omega | grind), (h.pick [0] (by decide)).sub ⟨rfl, rfl, rfl, rfl, rfl, trivial⟩⟩
 ·
  have hq1 := hc1; try simp at hq1
  refine dK ?_
  have hx1 := dz hL1 (show dr a b out i k1 = .out (out, i, k1) from (cF hc1))
  refine gz h <| gx hK3 <| gr fun K12 hK12 => g0 (af rfl) rfl <| g0 (ae rfl) rfl <| gn hK12 ?_; clear h ac wo; intro ac wo h
  replace h := h.sub (F' := [(4, outv)]) ⟨rfl, trivial⟩
  refine e7 ?_
  have hd : ca a b = out := (ew (hX1.trans hx1))
  exact ret h rfl (.tmp rfl .nil) rfl (by rw [hd]; exact h.retR 0 rfl ⟨zout, (by first | omega | grind)⟩)
attribute [irreducible] ca
end Go.Sx
