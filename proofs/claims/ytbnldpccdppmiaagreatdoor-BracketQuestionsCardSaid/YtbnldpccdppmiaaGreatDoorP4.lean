/- A part of the proof that the law BracketQuestions/Checks answers true at every input and leaves its arguments as they were. -/
import Derived.Test.YtbnldpccdppmiaaGreatDoorSr
set_option linter.unusedVariables false
set_option linter.unusedSimpArgs false
open Go.Proofs.Tryz renaming runUnderlying104 → uu104, sizeOf26 → zz26, runUnderlying26 → uu26, sizeOf66 → zz66, isAgg66 → aa66, zeroValue66 → vv66, zeroValue107 → vv107, sizeOf107 → zz107, runUnderlying107 → uu107, sizeOf105 → zz105, runUnderlying105 → uu105, sizeOf3 → zz3, isAgg107 → aa107, runUnderlying103 → uu103, isAgg3 → aa3, sizeOf92 → zz92, isAgg92 → aa92
namespace Go.Sx
open Go Go.RowKit Go.Proofs
set_option maxRecDepth 100000
set_option maxHeartbeats 40000000
attribute [local irreducible] aY bS an aI aM d7
theorem ic : SlT Tryz.prog 26 66 20 216 [.bool false, .string ⟨#[]⟩, .bool false, .string ⟨#[]⟩, .bool false, .string ⟨#[]⟩, .bool false, .string ⟨#[]⟩, .bool false, .bool false, .string ⟨#[]⟩, .bool false, .string ⟨#[]⟩, .bool false, .string ⟨#[]⟩, .bool false, .string ⟨#[]⟩, .bool false, .bool false, .bool false] := ⟨Tryz.underlying26, Tryz.t66, _, Tryz.type66, rfl, rfl, rfl, rfl, rfl, by decide, by decide⟩
theorem iq : SlT Tryz.prog 103 107 12 128 [.bool false, .string ⟨#[]⟩, .bool false, .string ⟨#[]⟩, .bool false, .string ⟨#[]⟩, .bool false, .string ⟨#[]⟩, .bool false, .bool false, .int .i64 0, .int .i64 0] := ⟨Tryz.underlying103, Tryz.t107, _, Tryz.type107, rfl, rfl, rfl, rfl, rfl, by decide, by decide⟩
theorem oV : SlT Tryz.prog 104 26 1 24 [.slice none 0 0] := ⟨Tryz.underlying104, Tryz.t26, _, Tryz.type26, rfl, rfl, rfl, rfl, rfl, by decide, by decide⟩
def jK (a : List Iv) (b : List Iv) (l : List Ev) (x32 : Nat) (l2 : List Ev) (x322 : Nat) (out : List Iv) (in_ : Bool) (x59 : Nat) (from_ : Bd) (n : I2) : (List Iv) :=
 out
def bH (a : List Iv) (b : List Iv) (l : List Ev) (x32 : Nat) (l2 : List Ev) (x322 : Nat) (out : List Iv) (in_ : Bool) (x59 : Nat) (from_ : Bd) (n : I2) : Nx ((List Iv) × Bool × Nat × Bd × I2) (List Iv) :=
 bif (decide (((x59 : Nat) : Int) < (((ab l2).length : Nat) : Int))) then
  bif ((decide (((x59 + 1 : Nat) : Int) < (((ab l2).length : Nat) : Int))) && ((aQ ((gt (ab l2) x59).at_) ((gt (ab l2) (x59 + 1)).at_)) == 0)) then
   .go (out, in_, (x59 + 1), from_, (⟨(n.n0 + ((gt (ab l2) x59).b0)), (n.n1 + ((gt (ab l2) x59).b1))⟩ : I2))
  else
   bif ((aP (decide ((n.n0 + ((gt (ab l2) x59).b0)) > 0)) (decide ((n.n1 + ((gt (ab l2) x59).b1)) > 0))) && (!in_)) then
    .go (out, (aP (decide ((n.n0 + ((gt (ab l2) x59).b0)) > 0)) (decide ((n.n1 + ((gt (ab l2) x59).b1)) > 0))), (x59 + 1), (gt (ab l2) x59).at_, (⟨(n.n0 + ((gt (ab l2) x59).b0)), (n.n1 + ((gt (ab l2) x59).b1))⟩ : I2))
   else
    bif ((!(aP (decide ((n.n0 + ((gt (ab l2) x59).b0)) > 0)) (decide ((n.n1 + ((gt (ab l2) x59).b1)) > 0)))) && in_) then
     .go ((out ++ [(a8 from_ ((gt (ab l2) x59).at_))]), (aP (decide ((n.n0 + ((gt (ab l2) x59).b0)) > 0)) (decide ((n.n1 + ((gt (ab l2) x59).b1)) > 0))), (x59 + 1), from_, (⟨(n.n0 + ((gt (ab l2) x59).b0)), (n.n1 + ((gt (ab l2) x59).b1))⟩ : I2))
    else
     .go (out, (aP (decide ((n.n0 + ((gt (ab l2) x59).b0)) > 0)) (decide ((n.n1 + ((gt (ab l2) x59).b1)) > 0))), (x59 + 1), from_, (⟨(n.n0 + ((gt (ab l2) x59).b0)), (n.n1 + ((gt (ab l2) x59).b1))⟩ : I2))
 else
  .out (out, in_, x59, from_, n)
def fG (a : List Iv) (b : List Iv) (l : List Ev) (x32 : Nat) (l2 : List Ev) (x322 : Nat) : (List Iv) :=
 fin (cd (fun s => bH a b l x32 l2 x322 s.1 s.2.1 s.2.2.1 s.2.2.2.1 s.2.2.2.2) (((ab l2).length - 0) + 1) ([], false, 0, (⟨(⟨(⟨(⟨false, 0⟩ : GI), (⟨false, 0⟩ : GI)⟩ : GQ), (⟨(⟨false, 0⟩ : GI), (⟨false, 0⟩ : GI)⟩ : GQ), false⟩ : GR), false⟩ : Bd), (⟨0, 0⟩ : I2))) (fun s => jK a b l x32 l2 x322 s.1 s.2.1 s.2.2.1 s.2.2.2.1 s.2.2.2.2) (fun r => r)
def cX (a : List Iv) (b : List Iv) (l : List Ev) (x32 : Nat) (l2 : List Ev) (x322 : Nat) : Nx ((List Ev) × Nat) (List Iv) :=
 bif (decide (((x322 : Nat) : Int) < ((b.length : Nat) : Int))) then
  .go ((l2 ++ [(⟨(am (gt b x322)), 0, 1⟩ : Ev), (⟨(ao (gt b x322)), 0, (-1)⟩ : Ev)]), (x322 + 1))
 else
  .out (l2, x322)
def fH (a : List Iv) (b : List Iv) (l : List Ev) (x32 : Nat) : (List Iv) :=
 fin (cd (fun s => cX a b l x32 s.1 s.2) ((b.length - 0) + 1) (l, 0)) (fun s => fG a b l x32 s.1 s.2) (fun r => r)
def cY (a : List Iv) (b : List Iv) (l : List Ev) (x32 : Nat) : Nx ((List Ev) × Nat) (List Iv) :=
 bif (decide (((x32 : Nat) : Int) < ((a.length : Nat) : Int))) then
  .go ((l ++ [(⟨(am (gt a x32)), 1, 0⟩ : Ev), (⟨(ao (gt a x32)), (-1), 0⟩ : Ev)]), (x32 + 1))
 else
  .out (l, x32)
def dT (a : List Iv) (b : List Iv) : (List Iv) :=
 fin (cd (fun s => cY a b s.1 s.2) ((a.length - 0) + 1) ([], 0)) (fun s => fH a b s.1 s.2) (fun r => r)
theorem g8 (a : List Iv) (av : Value) (b : List Iv) (bv : Value) (hla : a.length ≤ 200) (hlb : b.length ≤ 200) (hwa : ∀ i ∈ a, Wv i) (hwb : ∀ i ∈ b, Wv i) (za : All (SzV 30) a) (zb : All (SzV 30) b) (w0 : World) (hav : View w0 av a) (hbv : View w0 bv b) : Calls Tryz.prog 46 #[av, bv, (.func (.func 47) #[] #[])] w0 (RetR w0 66 (dT a b) (All (SzV 30) (dT a b) ∧ (dT a b).length ≤ 2 * a.length + 2 * b.length)) := by
  refine enter (N := 127) (args := [av, bv, (.func (.func 47) #[] #[])]) Tryz.func46 rfl rfl ?_; intro ac h
  have hlena := hav.len
  have hlenb := hbv.len
  refine bB fun K1 hK1 => ?_
  refine rd0 h (ah rfl) rfl <| gn hK1 <| gr fun K2 hK2 => g0 (ah rfl) rfl <| gn hK2 <| gq fun K3 hK3 => gr fun K4 hK4 => g0 (aj rfl) rfl <| g0 (aj rfl) rfl ?_; clear h ac; intro ac wo h
  refine bsl h oV rfl rfl (SL.is hav.sl) (SL.is hbv.sl) rfl ?_; clear h ac wo; intro b1 ac wo h
  refine rd0 h (dx uu104 rfl (n := 2) ⟨_, _, rfl⟩) rfl <| g0 (aj rfl) rfl <| gn hK4 <| gB ?_; clear h ac wo; intro ac wo h
  refine iD 2 ?_
  refine gz h <| gr fun K5 hK5 => g0 (dr rfl rfl) rfl <| gn hK5 <| gq fun K6 hK6 => ?_; clear h ac wo; intro ac wo h
  refine kO h rfl ?_
  refine gz h <| gS <| gx hK6 <| gq fun K7 hK7 => gB <| gr fun K8 hK8 => g0 (aj rfl) rfl <| g0 (ep (n := 2) (i := 0) uu104 zz26 rfl rfl ⟨_, _, _, rfl⟩ (by decide)) rfl <| g1 0 rfl (aZ (k := 0) Tryz.isAgg26 zz26 rfl rfl rfl (v := av) rfl) rfl <| g0 (ah rfl) rfl <| g0 (ah rfl) rfl <| gn hK8 <| gr fun K9 hK9 => g0 (aj rfl) rfl <| g0 (dx uu26 rfl hav.sl) rfl <| g0 (aj rfl) rfl <| gn hK9 <| gB ?_; clear h ac wo; intro ac wo h
  replace h := h.nilRow (α := Ev) 107
  obtain ⟨X1, hX1⟩ : ∃ X, cd (fun s => cY a b s.1 s.2) ((a.length - 0) + 1) ([], 0) = X := ⟨_, rfl⟩
  refine wp_loop_ghost (fun n_ a_ w_ => ∃ (l : List Ev) (x32 : Nat) (lv : Value), ((a.length - x32) < n_) ∧ (cd (fun s => cY a b s.1 s.2) n_ (l, x32) = X1) ∧ (x32 ≤ a.length) ∧ (All (SzE 30) l) ∧ (l.length = 2 * x32) ∧ (∀ e ∈ l, EvB e) ∧ (l = evA (a.take x32)) ∧ St w0 127 [(2, (.func (.func 47) #[] #[])), (7, lv), (8, (.int .i64 0)), (23, (.slice (some ⟨b1, 0, none⟩) 2 2)), (24, (.int .i64 2)), (25, (.int .i64 0)), (30, av), (31, (.int .i64 ((a.length : Nat) : Int))), (32, (.int .i64 ((x32 : Nat) : Int)))] [.row (α := Ev) 107 lv l, .blk b1 [av, bv] 26] a_ w_) ((a.length - 0) + 1) ⟨[], 0, (.slice none 0 0), (by omega), hX1, (by first | omega | grind), All.nil, (by first | omega | grind), mY, rfl, (h.sub ⟨rfl, rfl, rfl, rfl, rfl, rfl, rfl, rfl, rfl, trivial⟩)⟩ ?_
  clear h ac wo; rintro n1 ac wo ⟨l, x32, lv, hm1, hL1, hx32, zl, hll, hlb_, hle, h⟩
  obtain ⟨m1, rfl⟩ : ∃ m, n1 = m + 1 := ⟨n1 - 1, by omega⟩
  refine gz h <| gr fun K10 hK10 => g0 (dr rfl rfl) rfl <| gn hK10 <| gq fun K11 hK11 => ?_; clear h ac wo; intro ac wo h
  refine c8 h rfl (fun hc1 => ?_) (fun hc1 => ?_)
  · skip
    have hd1 := of_decide_eq_true hc1
    refine gz h <| gS <| gx hK11 <| gq fun K12 hK12 => gB <| gr fun K13 hK13 => g0 (ep (i := x32) uu26 zz66 rfl rfl (hav.nn (i := x32) (by first | omega | grind)) (by first | omega | grind)) rfl <| g0 (iK (k := 0) aa66 zz66 hav (ec (by first | omega | grind)) rfl (Nat.add_zero _) rfl rfl (v := (vV (gt a x32))) rfl) rfl <| ga (cV (⟨(⟨oQ, oQ, false⟩ : GR), (⟨oQ, oQ, false⟩ : GR), false, false⟩ : Iv)) vv66 rfl rfl fun b2 => gs 0 (cV (gt a x32)) rfl zz66 rfl rfl rfl rfl rfl rfl rfl <| gn hK13 <| gq fun K14 hK14 => ?_; clear h ac wo; intro ac wo h
    have s2 := Calls.pr ((fun w_ hB_ hS_ => bQ (gt a x32) (All.gt za (eC _)) w_ ) _ h.bel h.sep)
    have s3 := Calls.pr ((fun w_ hB_ hS_ => bV (gt a x32) (All.gt za (eC _)) w_ ) _ h.bel h.sep)
    replace h := h.emps 2
    refine dc mixed [⟨.det (vV (gt a x32)), [0]⟩, ⟨.det (vW (am (gt a x32))), []⟩, ⟨.det (vE (⟨(am (gt a x32)), 0, 0⟩ : Ev)), []⟩, ⟨.det (vV (gt a x32)), [0]⟩, ⟨.det (vW (ao (gt a x32))), []⟩, ⟨.det (vE (⟨(ao (gt a x32)), 0, 0⟩ : Ev)), []⟩, ⟨.nd (.one 6 fun v => ∃ b, v = ptr b 0), [3]⟩, ⟨.nd (.one 7 fun v => ∃ b, v = ptr b 0), [4]⟩, ⟨.det undef, [3]⟩, ⟨.det undef, [4]⟩] [⟨.blk b2 (cV (gt a x32)) 66, []⟩, ⟨.row (α := Ev) 107 lv l, []⟩, ⟨.blk b1 [av, bv] 26, []⟩, ⟨.emp, [(6, .one 6 fun v => .blk (bI v) (cE (⟨(⟨(⟨oQ, oQ, false⟩ : GR), false⟩ : Bd), 0, 0⟩ : Ev)) 107), (8, .one 6 fun v => .blk (bI v) (cE (⟨(am (gt a x32)), 0, 0⟩ : Ev)) 107)]⟩, ⟨.emp, [(7, .one 7 fun v => .blk (bI v) (cE (⟨(⟨(⟨oQ, oQ, false⟩ : GR), false⟩ : Bd), 0, 0⟩ : Ev)) 107), (9, .one 7 fun v => .blk (bI v) (cE (⟨(ao (gt a x32)), 0, 0⟩ : Ev)) 107)]⟩] h rfl (by kernel_rfl) ⟨?_, ?_, ?_, ?_, ?_, ?_, ?_, ?_, ?_, ?_, trivial⟩ ?_
    · intro ξ hφ; exact bT [.blk b2 (cV (gt a x32)) 66] rfl rfl (aZ aa66 zz66 rfl rfl rfl (v := (vV (gt a x32))) rfl)
    · intro ξ hφ; exact dY (df (vs := [(vV (gt a x32))]) (bh Tryz.call64 rfl) (fun w_ hB_ hS_ => bQ (gt a x32) (All.gt za (eC _)) w_ ))
    · intro ξ hφ; exact ay (bW ib rfl rfl (v := (vE (⟨(am (gt a x32)), 0, 0⟩ : Ev))) rfl)
    · intro ξ hφ; exact bT [.blk b2 (cV (gt a x32)) 66] rfl rfl (aZ aa66 zz66 rfl rfl rfl (v := (vV (gt a x32))) rfl)
    · intro ξ hφ; exact dY (df (bh Tryz.call63 rfl) (kk (bV (gt a x32) (All.gt za (eC _)))))
    · intro ξ hφ; exact ay (bW ib rfl rfl (v := (vE (⟨(ao (gt a x32)), 0, 0⟩ : Ev))) rfl)
    · intro ξ hφ; exact ij (ψ := fun v => ∃ b, v = ptr b 0) (B := fun v => [.blk (bI v) (cE (⟨(⟨(⟨oQ, oQ, false⟩ : GR), false⟩ : Bd), 0, 0⟩ : Ev)) 107]) [.emp] rfl (fun v _ => by simp only [dO, aS] <;> rfl) (fun v hv => by simpa [DF.one, aS] using hv) (fU (eo vv107 rfl))
    · intro ξ hφ; exact ij (ψ := fun v => ∃ b, v = ptr b 0) (B := fun v => [.blk (bI v) (cE (⟨(⟨(⟨oQ, oQ, false⟩ : GR), false⟩ : Bd), 0, 0⟩ : Ev)) 107]) [.emp] rfl (fun v _ => by simp only [dO, aS] <;> rfl) (fun v hv => by simpa [DF.one, aS] using hv) (fU (eo vv107 rfl))
    · intro ξ hφ; obtain ⟨b3, hb6⟩ := hφ 6 rfl; exact es [.blk b3 (cE (⟨(⟨(⟨oQ, oQ, false⟩ : GR), false⟩ : Bd), 0, 0⟩ : Ev)) 107] [.blk b3 (cE (⟨(am (gt a x32)), 0, 0⟩ : Ev)) 107] (congrArg (fun v => [Asn.blk (bI v) (cE (⟨(⟨(⟨oQ, oQ, false⟩ : GR), false⟩ : Bd), 0, 0⟩ : Ev)) 107]) hb6) (congrArg (fun v => [Asn.blk (bI v) (cE (⟨(am (gt a x32)), 0, 0⟩ : Ev)) 107]) hb6) (eW zz107 (Eq.trans rfl (congrArg some hb6)) rfl rfl rfl rfl rfl rfl)
    · intro ξ hφ; obtain ⟨b4, hb7⟩ := hφ 7 rfl; exact es [.blk b4 (cE (⟨(⟨(⟨oQ, oQ, false⟩ : GR), false⟩ : Bd), 0, 0⟩ : Ev)) 107] [.blk b4 (cE (⟨(ao (gt a x32)), 0, 0⟩ : Ev)) 107] (congrArg (fun v => [Asn.blk (bI v) (cE (⟨(⟨(⟨oQ, oQ, false⟩ : GR), false⟩ : Bd), 0, 0⟩ : Ev)) 107]) hb7) (congrArg (fun v => [Asn.blk (bI v) (cE (⟨(ao (gt a x32)), 0, 0⟩ : Ev)) 107]) hb7) (eW zz107 (Eq.trans rfl (congrArg some hb7)) rfl rfl rfl rfl rfl rfl)
    clear h ac wo; intro ξ ac wo hφ h
    replace h : St w0 127 [(2, (.func (.func 47) #[] #[])), (7, lv), (8, (.int .i64 0)), (23, (.slice (some ⟨b1, 0, none⟩) 2 2)), (24, (.int .i64 2)), (25, (.int .i64 0)), (30, av), (31, (.int .i64 ((a.length : Nat) : Int))), (32, (.int .i64 ((x32 : Nat) : Int))), (12, ξ 6), (13, ξ 7)] [.blk b2 (cV (gt a x32)) 66, .row (α := Ev) 107 lv l, .blk b1 [av, bv] 26, .blk (bI (ξ 6)) (cE (⟨(am (gt a x32)), 0, 0⟩ : Ev)) 107, .blk (bI (ξ 7)) (cE (⟨(ao (gt a x32)), 0, 0⟩ : Ev)) 107] ac wo := (h.pick [0, 1, 2, 3, 4] (by decide)).sub ⟨rfl, rfl, rfl, rfl, rfl, rfl, rfl, rfl, rfl, rfl, rfl, trivial⟩
    revert h
    obtain ⟨b3, hb6⟩ : ∃ b, ξ 6 = ptr b 0 := hφ 6
    obtain ⟨b4, hb7⟩ : ∃ b, ξ 7 = ptr b 0 := hφ 7
    rw [hb6, hb7]; intro h
    clear hb6 hb7
    clear hφ ξ
    refine gz h <| gx hK14 <| gr fun K15 hK15 => g0 (aj rfl) rfl <| g0 (aj rfl) rfl <| g0 (fa uu107 rfl zz105 rfl rfl rfl (k' := 10)) rfl <| g0 (dC (i := 0) uu105 zz3 rfl rfl (by decide)) rfl <| gs 3 (cE (⟨(am (gt a x32)), 1, 0⟩ : Ev)) rfl zz3 rfl rfl rfl rfl rfl rfl rfl <| g0 (fa uu107 rfl zz105 rfl rfl rfl (k' := 10)) rfl <| g0 (dC (i := 0) uu105 zz3 rfl rfl (by decide)) rfl <| gs 4 (cE (⟨(ao (gt a x32)), (-1), 0⟩ : Ev)) rfl zz3 rfl rfl rfl rfl rfl rfl rfl <| gn hK15 <| gR <| g0 (aj rfl) rfl <| g1 3 rfl (aZ aa107 zz107 rfl rfl rfl (v := (vE (⟨(am (gt a x32)), 1, 0⟩ : Ev))) rfl) rfl <| g1 4 rfl (aZ aa107 zz107 rfl rfl rfl (v := (vE (⟨(ao (gt a x32)), (-1), 0⟩ : Ev))) rfl) rfl ?_; clear h ac wo; intro ac wo h
    refine nw h (dg (α := Ev) (xs := [.tmp 49, .tmp 50]) (vs := [(vE (⟨(am (gt a x32)), 1, 0⟩ : Ev)), (vE (⟨(ao (gt a x32)), (-1), 0⟩ : Ev))]) [(⟨(am (gt a x32)), 1, 0⟩ : Ev), (⟨(ao (gt a x32)), (-1), 0⟩ : Ev)] iq rfl rfl rfl (by decide)) rfl ?_; clear h ac wo; intro sv4 ac wo nnsv4 h
    refine on2 h 2 0 rfl rfl (eM (xs := l) (ys := [(⟨(am (gt a x32)), 1, 0⟩ : Ev), (⟨(ao (gt a x32)), (-1), 0⟩ : Ev)]) iq (fun w hs => (row_view hs 0 rfl)) rfl rfl (by first | omega | grind)) rfl ?_; clear h ac wo; intro sv5 ac wo apsv5 h
    refine rd0 h (ah rfl) rfl <| gx (fun _ _ => aE) <| gN <| gx hK12 <| gR <| g0 (bO rfl rfl (r := ((x32 + 1 : Nat) : Int)) (by rw [IntKind.wrap_i64]; first | omega | grind)) rfl <| g0 (aj rfl) rfl <| gx (fun _ _ => aE) ?_; clear h ac wo; intro ac wo h
    exact aR ⟨m1, (by omega), _, _, _, (by first | omega | grind), cC hL1 (show cY a b l x32 = .go _ from (cT hc1)), (by first | omega | grind), (All.app zl (All.cons s2 (All.cons s3 All.nil))), (by first | omega | grind), (jR hlb_ ⟨⟨by decide, by decide⟩, ⟨by decide, by decide⟩⟩ ⟨⟨by decide, by decide⟩, ⟨by decide, by decide⟩⟩), (lO hle (by omega)), (h.pick [0, 3] (by decide)).sub ⟨rfl, rfl, rfl, rfl, rfl, rfl, rfl, rfl, rfl, trivial⟩⟩
  · skip
    have hd1 := of_decide_eq_false hc1
    refine dW ?_
    have hx1 := ej hL1 (show cY a b l x32 = .out (l, x32) from (cF hc1))
    refine gz h <| gx hK7 <| gR <| g0 (bO rfl rfl (r := 1) (by decide)) rfl <| g0 (aj rfl) rfl <| gx (fun _ _ => aE) ?_; clear h ac wo; intro ac wo h
    refine fh ?_
    refine gz h <| gr fun K16 hK16 => g0 (dr rfl rfl) rfl <| gn hK16 <| gq fun K17 hK17 => ?_; clear h ac wo; intro ac wo h
    refine kO h rfl ?_
    refine gz h <| gS <| gx hK17 <| gq fun K18 hK18 => gB <| gr fun K19 hK19 => g0 (aj rfl) rfl <| g0 (ep (n := 2) (i := 1) uu104 zz26 rfl rfl ⟨_, _, _, rfl⟩ (by decide)) rfl <| g1 1 rfl (aZ (k := 1) Tryz.isAgg26 zz26 rfl rfl rfl (v := bv) rfl) rfl <| g0 (ah rfl) rfl <| g0 (ah rfl) rfl <| gn hK19 <| gr fun K20 hK20 => g0 (aj rfl) rfl <| g0 (dx uu26 rfl hbv.sl) rfl <| g0 (aj rfl) rfl <| gn hK20 <| gB ?_; clear h ac wo; intro ac wo h
    obtain ⟨X2, hX2⟩ : ∃ X, cd (fun s => cX a b l x32 s.1 s.2) ((b.length - 0) + 1) (l, 0) = X := ⟨_, rfl⟩
    refine wp_loop_ghost (fun n_ a_ w_ => ∃ (l2 : List Ev) (x322 : Nat) (l2v : Value), ((b.length - x322) < n_) ∧ (cd (fun s => cX a b l x32 s.1 s.2) n_ (l2, x322) = X2) ∧ (x322 ≤ b.length) ∧ (All (SzE 30) l2) ∧ (l2.length = 2 * a.length + 2 * x322) ∧ (∀ e ∈ l2, EvB e) ∧ (l2 = evA a ++ evB (b.take x322)) ∧ St w0 127 [(2, (.func (.func 47) #[] #[])), (7, l2v), (8, (.int .i64 1)), (23, (.slice (some ⟨b1, 0, none⟩) 2 2)), (24, (.int .i64 2)), (25, (.int .i64 1)), (30, bv), (31, (.int .i64 ((b.length : Nat) : Int))), (32, (.int .i64 ((x322 : Nat) : Int)))] [.row (α := Ev) 107 l2v l2, .blk b1 [av, bv] 26] a_ w_) ((b.length - 0) + 1) ⟨l, 0, lv, (by omega), hX2, (by first | omega | grind), zl, (by first | omega | grind), hlb_, (by rw [hle, List.take_of_length_le (by omega)]; simp [evB]), (h.sub ⟨rfl, rfl, rfl, rfl, rfl, rfl, rfl, rfl, rfl, trivial⟩)⟩ ?_
    clear h ac wo; rintro n2 ac wo ⟨l2, x322, l2v, hm2, hL2, hx322, zl2, hll2, hlb2, hle2, h⟩
    obtain ⟨m2, rfl⟩ : ∃ m, n2 = m + 1 := ⟨n2 - 1, by omega⟩
    refine gz h <| gr fun K21 hK21 => g0 (dr rfl rfl) rfl <| gn hK21 <| gq fun K22 hK22 => ?_; clear h ac wo; intro ac wo h
    refine c8 h rfl (fun hc2 => ?_) (fun hc2 => ?_)
    · skip
      have hd2 := of_decide_eq_true hc2
      refine gz h <| gS <| gx hK22 <| gq fun K23 hK23 => gB <| gr fun K24 hK24 => g0 (ep (i := x322) uu26 zz66 rfl rfl (hbv.nn (i := x322) (by first | omega | grind)) (by first | omega | grind)) rfl <| g0 (iK (k := 0) aa66 zz66 hbv (ec (by first | omega | grind)) rfl (Nat.add_zero _) rfl rfl (v := (vV (gt b x322))) rfl) rfl <| ga (cV (⟨(⟨oQ, oQ, false⟩ : GR), (⟨oQ, oQ, false⟩ : GR), false, false⟩ : Iv)) vv66 rfl rfl fun b5 => gs 0 (cV (gt b x322)) rfl zz66 rfl rfl rfl rfl rfl rfl rfl <| gn hK24 <| gq fun K25 hK25 => ?_; clear h ac wo; intro ac wo h
      have s6 := Calls.pr ((fun w_ hB_ hS_ => bQ (gt b x322) (All.gt zb (eC _)) w_ ) _ h.bel h.sep)
      have s7 := Calls.pr ((fun w_ hB_ hS_ => bV (gt b x322) (All.gt zb (eC _)) w_ ) _ h.bel h.sep)
      replace h := h.emps 2
      refine dc mixed [⟨.det (vV (gt b x322)), [0]⟩, ⟨.det (vW (am (gt b x322))), []⟩, ⟨.det (vE (⟨(am (gt b x322)), 0, 0⟩ : Ev)), []⟩, ⟨.det (vV (gt b x322)), [0]⟩, ⟨.det (vW (ao (gt b x322))), []⟩, ⟨.det (vE (⟨(ao (gt b x322)), 0, 0⟩ : Ev)), []⟩, ⟨.nd (.one 6 fun v => ∃ b, v = ptr b 0), [3]⟩, ⟨.nd (.one 7 fun v => ∃ b, v = ptr b 0), [4]⟩, ⟨.det undef, [3]⟩, ⟨.det undef, [4]⟩] [⟨.blk b5 (cV (gt b x322)) 66, []⟩, ⟨.row (α := Ev) 107 l2v l2, []⟩, ⟨.blk b1 [av, bv] 26, []⟩, ⟨.emp, [(6, .one 6 fun v => .blk (bI v) (cE (⟨(⟨(⟨oQ, oQ, false⟩ : GR), false⟩ : Bd), 0, 0⟩ : Ev)) 107), (8, .one 6 fun v => .blk (bI v) (cE (⟨(am (gt b x322)), 0, 0⟩ : Ev)) 107)]⟩, ⟨.emp, [(7, .one 7 fun v => .blk (bI v) (cE (⟨(⟨(⟨oQ, oQ, false⟩ : GR), false⟩ : Bd), 0, 0⟩ : Ev)) 107), (9, .one 7 fun v => .blk (bI v) (cE (⟨(ao (gt b x322)), 0, 0⟩ : Ev)) 107)]⟩] h rfl (by kernel_rfl) ⟨?_, ?_, ?_, ?_, ?_, ?_, ?_, ?_, ?_, ?_, trivial⟩ ?_
      · intro ξ hφ; exact bT [.blk b5 (cV (gt b x322)) 66] rfl rfl (aZ aa66 zz66 rfl rfl rfl (v := (vV (gt b x322))) rfl)
      · intro ξ hφ; exact dY (df (vs := [(vV (gt b x322))]) (bh Tryz.call64 rfl) (fun w_ hB_ hS_ => bQ (gt b x322) (All.gt zb (eC _)) w_ ))
      · intro ξ hφ; exact ay (bW ib rfl rfl (v := (vE (⟨(am (gt b x322)), 0, 0⟩ : Ev))) rfl)
      · intro ξ hφ; exact bT [.blk b5 (cV (gt b x322)) 66] rfl rfl (aZ aa66 zz66 rfl rfl rfl (v := (vV (gt b x322))) rfl)
      · intro ξ hφ; exact dY (df (bh Tryz.call63 rfl) (kk (bV (gt b x322) (All.gt zb (eC _)))))
      · intro ξ hφ; exact ay (bW ib rfl rfl (v := (vE (⟨(ao (gt b x322)), 0, 0⟩ : Ev))) rfl)
      · intro ξ hφ; exact ij (ψ := fun v => ∃ b, v = ptr b 0) (B := fun v => [.blk (bI v) (cE (⟨(⟨(⟨oQ, oQ, false⟩ : GR), false⟩ : Bd), 0, 0⟩ : Ev)) 107]) [.emp] rfl (fun v _ => by simp only [dO, aS] <;> rfl) (fun v hv => by simpa [DF.one, aS] using hv) (fU (eo vv107 rfl))
      · intro ξ hφ; exact ij (ψ := fun v => ∃ b, v = ptr b 0) (B := fun v => [.blk (bI v) (cE (⟨(⟨(⟨oQ, oQ, false⟩ : GR), false⟩ : Bd), 0, 0⟩ : Ev)) 107]) [.emp] rfl (fun v _ => by simp only [dO, aS] <;> rfl) (fun v hv => by simpa [DF.one, aS] using hv) (fU (eo vv107 rfl))
      · intro ξ hφ; obtain ⟨b6, hb6⟩ := hφ 6 rfl; exact es [.blk b6 (cE (⟨(⟨(⟨oQ, oQ, false⟩ : GR), false⟩ : Bd), 0, 0⟩ : Ev)) 107] [.blk b6 (cE (⟨(am (gt b x322)), 0, 0⟩ : Ev)) 107] (congrArg (fun v => [Asn.blk (bI v) (cE (⟨(⟨(⟨oQ, oQ, false⟩ : GR), false⟩ : Bd), 0, 0⟩ : Ev)) 107]) hb6) (congrArg (fun v => [Asn.blk (bI v) (cE (⟨(am (gt b x322)), 0, 0⟩ : Ev)) 107]) hb6) (eW zz107 (Eq.trans rfl (congrArg some hb6)) rfl rfl rfl rfl rfl rfl)
      · intro ξ hφ; obtain ⟨b7, hb7⟩ := hφ 7 rfl; exact es [.blk b7 (cE (⟨(⟨(⟨oQ, oQ, false⟩ : GR), false⟩ : Bd), 0, 0⟩ : Ev)) 107] [.blk b7 (cE (⟨(ao (gt b x322)), 0, 0⟩ : Ev)) 107] (congrArg (fun v => [Asn.blk (bI v) (cE (⟨(⟨(⟨oQ, oQ, false⟩ : GR), false⟩ : Bd), 0, 0⟩ : Ev)) 107]) hb7) (congrArg (fun v => [Asn.blk (bI v) (cE (⟨(ao (gt b x322)), 0, 0⟩ : Ev)) 107]) hb7) (eW zz107 (Eq.trans rfl (congrArg some hb7)) rfl rfl rfl rfl rfl rfl)
      clear h ac wo; intro ξ ac wo hφ h
      replace h : St w0 127 [(2, (.func (.func 47) #[] #[])), (7, l2v), (8, (.int .i64 1)), (23, (.slice (some ⟨b1, 0, none⟩) 2 2)), (24, (.int .i64 2)), (25, (.int .i64 1)), (30, bv), (31, (.int .i64 ((b.length : Nat) : Int))), (32, (.int .i64 ((x322 : Nat) : Int))), (12, ξ 6), (13, ξ 7)] [.blk b5 (cV (gt b x322)) 66, .row (α := Ev) 107 l2v l2, .blk b1 [av, bv] 26, .blk (bI (ξ 6)) (cE (⟨(am (gt b x322)), 0, 0⟩ : Ev)) 107, .blk (bI (ξ 7)) (cE (⟨(ao (gt b x322)), 0, 0⟩ : Ev)) 107] ac wo := (h.pick [0, 1, 2, 3, 4] (by decide)).sub ⟨rfl, rfl, rfl, rfl, rfl, rfl, rfl, rfl, rfl, rfl, rfl, trivial⟩
      revert h
      obtain ⟨b6, hb6⟩ : ∃ b, ξ 6 = ptr b 0 := hφ 6
      obtain ⟨b7, hb7⟩ : ∃ b, ξ 7 = ptr b 0 := hφ 7
      rw [hb6, hb7]; intro h
      clear hb6 hb7
      clear hφ ξ
      refine gz h <| gx hK25 <| gr fun K26 hK26 => g0 (aj rfl) rfl <| g0 (aj rfl) rfl <| g0 (fa uu107 rfl zz105 rfl rfl rfl (k' := 10)) rfl <| g0 (dC (i := 1) uu105 zz3 rfl rfl (by decide)) rfl <| gs 3 (cE (⟨(am (gt b x322)), 0, 1⟩ : Ev)) rfl zz3 rfl rfl rfl rfl rfl rfl rfl <| g0 (fa uu107 rfl zz105 rfl rfl rfl (k' := 10)) rfl <| g0 (dC (i := 1) uu105 zz3 rfl rfl (by decide)) rfl <| gs 4 (cE (⟨(ao (gt b x322)), 0, (-1)⟩ : Ev)) rfl zz3 rfl rfl rfl rfl rfl rfl rfl <| gn hK26 <| gR <| g0 (aj rfl) rfl <| g1 3 rfl (aZ aa107 zz107 rfl rfl rfl (v := (vE (⟨(am (gt b x322)), 0, 1⟩ : Ev))) rfl) rfl <| g1 4 rfl (aZ aa107 zz107 rfl rfl rfl (v := (vE (⟨(ao (gt b x322)), 0, (-1)⟩ : Ev))) rfl) rfl ?_; clear h ac wo; intro ac wo h
      refine nw h (dg (α := Ev) (xs := [.tmp 49, .tmp 50]) (vs := [(vE (⟨(am (gt b x322)), 0, 1⟩ : Ev)), (vE (⟨(ao (gt b x322)), 0, (-1)⟩ : Ev))]) [(⟨(am (gt b x322)), 0, 1⟩ : Ev), (⟨(ao (gt b x322)), 0, (-1)⟩ : Ev)] iq rfl rfl rfl (by decide)) rfl ?_; clear h ac wo; intro sv8 ac wo nnsv8 h
      refine on2 h 2 0 rfl rfl (eM (xs := l2) (ys := [(⟨(am (gt b x322)), 0, 1⟩ : Ev), (⟨(ao (gt b x322)), 0, (-1)⟩ : Ev)]) iq (fun w hs => (row_view hs 0 rfl)) rfl rfl (by first | omega | grind)) rfl ?_; clear h ac wo; intro sv9 ac wo apsv9 h
      refine rd0 h (ah rfl) rfl <| gx (fun _ _ => aE) <| gN <| gx hK23 <| gR <| g0 (bO rfl rfl (r := ((x322 + 1 : Nat) : Int)) (by rw [IntKind.wrap_i64]; first | omega | grind)) rfl <| g0 (aj rfl) rfl <| gx (fun _ _ => aE) ?_; clear h ac wo; intro ac wo h
      exact aR ⟨m2, (by omega), _, _, _, (by first | omega | grind), cC hL2 (show cX a b l x32 l2 x322 = .go _ from (cT hc2)), (by first | omega | grind), (All.app zl2 (All.cons s6 (All.cons s7 All.nil))), (by first | omega | grind), (jR hlb2 ⟨⟨by decide, by decide⟩, ⟨by decide, by decide⟩⟩ ⟨⟨by decide, by decide⟩, ⟨by decide, by decide⟩⟩), (lN hle2 (by omega)), (h.pick [0, 3] (by decide)).sub ⟨rfl, rfl, rfl, rfl, rfl, rfl, rfl, rfl, rfl, trivial⟩⟩
    · skip
      have hd2 := of_decide_eq_false hc2
      refine dW ?_
      have hx2 := ej hL2 (show cX a b l x32 l2 x322 = .out (l2, x322) from (cF hc2))
      refine gz h <| gx hK18 <| gR <| g0 (bO rfl rfl (r := 2) (by decide)) rfl <| g0 (aj rfl) rfl <| gx (fun _ _ => aE) ?_; clear h ac wo; intro ac wo h
      refine fh ?_
      refine gz h <| gr fun K27 hK27 => g0 (dr rfl rfl) rfl <| gn hK27 <| gq fun K28 hK28 => ?_; clear h ac wo; intro ac wo h
      refine kP h rfl ?_
      refine dW ?_
      refine hK3 _ _ ?_
      refine bB fun K29 hK29 => ?_
      have hT2 : ∀ e ∈ l2, Tm e.at_.at_ := by rw [hle2, List.take_of_length_le (by omega)]; exact mZ hwa hwb
      refine rd0 h (aj rfl) rfl ?_; clear h ac wo; intro ac wo h
      refine on1 h 0 rfl (o4 (vs := [l2v, (.func (.func 73) #[] #[])]) (A := fun v => [.row (α := Ev) 107 l2v (ab l2)]) (bh Tryz.call72 rfl) (fun w_ B_ hB_ hS_ => et l2 l2v (by first | omega | grind) hT2 zl2 w0 w_ B_ hB_ hS_ )) rfl ?_; clear h ac wo; intro vc ac wo s11 h
      obtain rfl : vc = _ := s11.1
      have p12 := s11.2.2
      refine gz h <| gn hK29 <| gr fun K30 hK30 => g0 (ah rfl) rfl <| gn hK30 <| gr fun K31 hK31 => ga (cJ (⟨0, 0⟩ : I2)) Tryz.zeroValue105 rfl rfl fun b8 => gn hK31 <| gr fun K32 hK32 => ga (cW (⟨(⟨oQ, oQ, false⟩ : GR), false⟩ : Bd)) Tryz.zeroValue92 rfl rfl fun b9 => gn hK32 <| gr fun K33 hK33 => g0 (ah rfl) rfl <| gn hK33 <| gq fun K34 hK34 => gr fun K35 hK35 => g0 (aj rfl) rfl ?_; clear h ac wo; intro ac wo h
      refine rd0 h (dx uu103 rfl (h.row_sl 2 rfl)) rfl <| g0 (aj rfl) rfl <| gn hK35 <| gB ?_; clear h ac wo; intro ac wo h
      have hl2e : l2 = evA a ++ evB b := by rw [hle2, List.take_of_length_le (by omega)]
      replace h := h.nilRow (α := Iv) 66
      obtain ⟨X3, hX3⟩ : ∃ X, cd (fun s => bH a b l x32 l2 x322 s.1 s.2.1 s.2.2.1 s.2.2.2.1 s.2.2.2.2) (((ab l2).length - 0) + 1) ([], false, 0, (⟨(⟨oQ, oQ, false⟩ : GR), false⟩ : Bd), (⟨0, 0⟩ : I2)) = X := ⟨_, rfl⟩
      refine wp_loop_ghost (fun n_ a_ w_ => ∃ (out : List Iv) (in_ : Bool) (x59 : Nat) (from_ : Bd) (n : I2) (outv : Value), (((ab l2).length - x59) < n_) ∧ (cd (fun s => bH a b l x32 l2 x322 s.1 s.2.1 s.2.2.1 s.2.2.2.1 s.2.2.2.2) n_ (out, in_, x59, from_, n) = X3) ∧ (x59 ≤ (ab l2).length) ∧ (All (SzV 30) out) ∧ (SzW 30 from_) ∧ (out.length ≤ x59) ∧ ((-(x59 : Int) ≤ n.n0 ∧ n.n0 ≤ (x59 : Int)) ∧ (-(x59 : Int) ≤ n.n1 ∧ n.n1 ≤ (x59 : Int))) ∧ St w0 127 [(2, (.func (.func 47) #[] #[])), (7, l2v), (14, outv), (15, (ptr b8 0)), (16, (ptr b9 0)), (17, (.bool in_)), (57, l2v), (58, (.int .i64 (((ab l2).length : Nat) : Int))), (59, (.int .i64 ((x59 : Nat) : Int)))] [.row (α := Iv) 66 outv out, .blk b9 (cW from_) 92, .blk b8 (cJ n) 105, .row (α := Ev) 107 l2v (ab l2), .blk b1 [av, bv] 26] a_ w_) (((ab l2).length - 0) + 1) ⟨[], false, 0, (⟨(⟨oQ, oQ, false⟩ : GR), false⟩ : Bd), (⟨0, 0⟩ : I2), (.slice none 0 0), (by omega), hX3, (by first | omega | grind), All.nil, ⟨⟨(cu 0 (by decide) (by omega)), (cu 0 (by decide) (by omega))⟩, ⟨(cu 0 (by decide) (by omega)), (cu 0 (by decide) (by omega))⟩⟩, (by first | omega | grind), ⟨⟨by decide, by decide⟩, ⟨by decide, by decide⟩⟩, (h.sub ⟨rfl, rfl, rfl, rfl, rfl, rfl, rfl, rfl, rfl, trivial⟩)⟩ ?_
      clear h ac wo; rintro n3 ac wo ⟨out, in_, x59, from_, n, outv, hm3, hL3, hx59, zout, zfrom_, hol, hn, h⟩
      obtain ⟨m3, rfl⟩ : ∃ m, n3 = m + 1 := ⟨n3 - 1, by omega⟩
      have hslen : (ab l2).length = l2.length := (ff l2).length_eq
      obtain ⟨⟨he1, he2⟩, ⟨he3, he4⟩⟩ := pC hlb2 x59
      refine gz h <| gr fun K36 hK36 => g0 (dr rfl rfl) rfl <| gn hK36 <| gq fun K37 hK37 => ?_; clear h ac wo; intro ac wo h
      refine c8 h rfl (fun hc3 => ?_) (fun hc3 => ?_)
      · skip
        have hd3 := of_decide_eq_true hc3
        refine gz h <| gS <| gx hK37 <| gq fun K38 hK38 => gB <| gr fun K39 hK39 => g0 (aj rfl) rfl ?_; clear h ac wo; intro ac wo h
        refine rd0 h (ep (i := x59) uu103 zz107 rfl rfl (h.row_nn 3 rfl (by first | omega | grind)) (by first | omega | grind)) rfl <| g1 3 rfl (er (k := 0) aa107 zz107 (ec (by first | omega | grind)) rfl (Nat.add_zero _) rfl rfl (v := (vE (gt (ab l2) x59))) rfl) rfl <| ga (cE (⟨(⟨(⟨oQ, oQ, false⟩ : GR), false⟩ : Bd), 0, 0⟩ : Ev)) vv107 rfl rfl fun b10 => g0 (ah rfl) rfl <| gs 0 (cE (gt (ab l2) x59)) rfl zz107 rfl rfl rfl rfl rfl rfl rfl <| gn hK39 <| gq fun K40 hK40 => ?_; clear h ac wo; intro ac wo h
        refine dc mixed [dv _, dw _ [3], dv _, dv _, dw _ [0], dv _, dv _, dw _ [3], dv _, dv _, dw _ [0], dv _, dv _, dw _ [3], dv _, dw _ [3]] [⟨_, []⟩, ⟨_, []⟩, ⟨_, []⟩, ⟨.blk b8 (cJ n) 105, [(13, .con _), (15, .con _)]⟩, ⟨_, []⟩, ⟨_, []⟩] h rfl (by kernel_rfl) ⟨fun _ _ => ay (dC (i := 0) uu105 zz3 rfl rfl (by decide)), fun _ _ => bT _ rfl rfl (aZ aa3 zz3 rfl rfl rfl (v := (.int .i64 n.n0)) rfl), fun _ _ => ay (fa uu107 rfl zz105 rfl rfl rfl (k' := 10)), fun _ _ => ay (dC (i := 0) uu105 zz3 rfl rfl (by decide)), fun _ _ => bT _ rfl rfl (aZ aa3 zz3 rfl rfl rfl (v := (.int .i64 ((gt (ab l2) x59).b0))) rfl), fun _ _ => ay (bO rfl rfl (r := (n.n0 + ((gt (ab l2) x59).b0))) (by rw [IntKind.wrap_i64]; first | omega | grind)), fun _ _ => ay (dC (i := 1) uu105 zz3 rfl rfl (by decide)), fun _ _ => bT _ rfl rfl (aZ aa3 zz3 rfl rfl rfl (v := (.int .i64 n.n1)) rfl), fun _ _ => ay (fa uu107 rfl zz105 rfl rfl rfl (k' := 10)), fun _ _ => ay (dC (i := 1) uu105 zz3 rfl rfl (by decide)), fun _ _ => bT _ rfl rfl (aZ aa3 zz3 rfl rfl rfl (v := (.int .i64 ((gt (ab l2) x59).b1))) rfl), fun _ _ => ay (bO rfl rfl (r := (n.n1 + ((gt (ab l2) x59).b1))) (by rw [IntKind.wrap_i64]; first | omega | grind)), fun _ _ => ay (dC (i := 0) uu105 zz3 rfl rfl (by decide)), fun _ _ => es _ [.blk b8 (cJ (⟨(n.n0 + ((gt (ab l2) x59).b0)), n.n1⟩ : I2)) 105] rfl rfl (eW zz3 rfl rfl rfl rfl rfl rfl rfl), fun _ _ => ay (dC (i := 1) uu105 zz3 rfl rfl (by decide)), fun _ _ => es _ [.blk b8 (cJ (⟨(n.n0 + ((gt (ab l2) x59).b0)), (n.n1 + ((gt (ab l2) x59).b1))⟩ : I2)) 105] rfl rfl (eW zz3 rfl rfl rfl rfl rfl rfl rfl), trivial⟩ ?_
        clear h ac wo; intro ξ ac wo hφ h
        replace h : St w0 127 [(2, (.func (.func 47) #[] #[])), (7, l2v), (14, outv), (15, (ptr b8 0)), (16, (ptr b9 0)), (17, (.bool in_)), (57, l2v), (58, (.int .i64 (((ab l2).length : Nat) : Int))), (59, (.int .i64 ((x59 : Nat) : Int))), (19, (ptr b10 0)), (18, (.int .i64 ((x59 : Nat) : Int)))] [.blk b10 (cE (gt (ab l2) x59)) 107, .row (α := Iv) 66 outv out, .blk b9 (cW from_) 92, .blk b8 (cJ (⟨(n.n0 + ((gt (ab l2) x59).b0)), (n.n1 + ((gt (ab l2) x59).b1))⟩ : I2)) 105, .row (α := Ev) 107 l2v (ab l2), .blk b1 [av, bv] 26] ac wo := (h.pick [0, 1, 2, 3, 4, 5] (by decide)).sub ⟨rfl, rfl, rfl, rfl, rfl, rfl, rfl, rfl, rfl, rfl, rfl, trivial⟩
        clear hφ ξ
        refine hK40 _ _ ?_
        refine bP fun K41 hK41 => ?_
        refine bP fun K42 hK42 => ?_
        have s14 := Calls.pr ((fun w_ hB_ hS_ => ch ((gt (ab l2) x59).at_) ((gt (ab l2) (x59 + 1)).at_) (All.gt s11.2.1 (gk _)) (All.gt s11.2.1 (gk _)) w_ ) _ h.bel h.sep)
        have p15 := s14
        refine dc mixed [dv _, dv _, dv _, dv _, dv _, dv _, dv _, dw _ [0], dv _, dv _, dv _, dv _, dv _, dw _ [4], dv _, dv _, dv _] [⟨_, []⟩, ⟨_, []⟩, ⟨_, []⟩, ⟨_, []⟩, ⟨_, []⟩, ⟨_, []⟩] h rfl (by kernel_rfl) ⟨fun _ _ => om rfl, fun _ _ => ay (bO rfl rfl (r := ((x59 + 1 : Nat) : Int)) (by rw [IntKind.wrap_i64]; first | omega | grind)), fun _ _ => om rfl, fun _ _ => ay (dx uu103 rfl (h.row_sl 4 rfl)), fun _ _ => ay (dr rfl rfl), fun _ _ => om rfl, fun _ _ => oh rfl rfl rfl rfl (fun hg => fa uu107 rfl zz92 rfl rfl rfl (k' := 0)), fun _ _ => oh rfl rfl rfl rfl (fun hg => aZ aa92 zz92 (bo rfl hg) rfl rfl (v := (vW ((gt (ab l2) x59).at_))) rfl), fun _ _ => oh rfl rfl rfl rfl (fun hg => aj rfl), fun _ _ => oh rfl rfl rfl rfl (fun hg => aj rfl), fun _ _ => oh rfl rfl rfl rfl (fun hg => bO (bo rfl hg) rfl (r := ((x59 + 1 : Nat) : Int)) (by rw [IntKind.wrap_i64]; first | omega | (simp at hg; omega) | grind)), fun _ _ => oh rfl rfl rfl rfl (fun hg => ep (i := (x59 + 1)) uu103 zz107 (bo rfl hg) (bo rfl hg) (h.row_nn 4 rfl (by first | omega | (simp at hg; omega) | grind)) (by first | omega | (simp at hg; omega) | grind)), fun _ _ => oh rfl rfl rfl rfl (fun hg => fs uu107 rfl zz92 rfl (h.row_nn 4 rfl (by first | omega | (simp at hg; omega) | grind)) (bo rfl hg) rfl (k' := (x59 + 1) * 12 + 0)), fun _ _ => oh rfl rfl rfl rfl (fun hg => er (k := 0) aa92 zz92 (ec (by first | omega | (simp at hg; omega) | grind)) (bo rfl hg) rfl rfl rfl (v := (vW ((gt (ab l2) (x59 + 1)).at_))) rfl), fun _ _ => og1 rfl rfl rfl rfl (fun hg => df (bh Tryz.call62 (en (bo rfl hg) (en (bo rfl hg) rfl))) (kk (ch ((gt (ab l2) x59).at_) ((gt (ab l2) (x59 + 1)).at_) (All.gt s11.2.1 (gk _)) (All.gt s11.2.1 (gk _))))), fun _ _ => oh rfl rfl rfl rfl (fun hg => dV (bo rfl hg) rfl), fun _ _ => ay (gH rfl (fun e => (bo rfl e))), trivial⟩ ?_
        clear h ac wo; intro ξ ac wo hφ h
        replace h : St w0 127 [(2, (.func (.func 47) #[] #[])), (7, l2v), (14, outv), (15, (ptr b8 0)), (16, (ptr b9 0)), (17, (.bool in_)), (57, l2v), (58, (.int .i64 (((ab l2).length : Nat) : Int))), (59, (.int .i64 ((x59 : Nat) : Int))), (19, (ptr b10 0)), (94, (.bool ((decide (((x59 + 1 : Nat) : Int) < (((ab l2).length : Nat) : Int))) && ((aQ ((gt (ab l2) x59).at_) ((gt (ab l2) (x59 + 1)).at_)) == 0))))] [.blk b10 (cE (gt (ab l2) x59)) 107, .row (α := Iv) 66 outv out, .blk b9 (cW from_) 92, .blk b8 (cJ (⟨(n.n0 + ((gt (ab l2) x59).b0)), (n.n1 + ((gt (ab l2) x59).b1))⟩ : I2)) 105, .row (α := Ev) 107 l2v (ab l2), .blk b1 [av, bv] 26] ac wo := (h.pick [0, 1, 2, 3, 4, 5] (by decide)).sub ⟨rfl, rfl, rfl, rfl, rfl, rfl, rfl, rfl, rfl, rfl, rfl, trivial⟩
        clear hφ ξ
        refine hK42 _ _ ?_
        refine c8 h rfl (fun hc4 => ?_) (fun hc4 => ?_)
        · skip
          have hq4 := hc4; try simp at hq4
          refine gz h <| gE <| gx hK38 <| gR <| g0 (bO rfl rfl (r := ((x59 + 1 : Nat) : Int)) (by rw [IntKind.wrap_i64]; first | omega | grind)) rfl <| g0 (aj rfl) rfl <| gx (fun _ _ => aE) ?_; clear h ac wo; intro ac wo h
          exact aR ⟨m3, (by omega), _, _, _, _, _, _, (by first | omega | grind), cC hL3 (show bH a b l x32 l2 x322 out in_ x59 from_ n = .go _ from (Eq.trans (cT hc3) (cT hc4))), (by first | omega | grind), zout, zfrom_, (by first | omega | grind), ⟨⟨by simp only; omega, by simp only; omega⟩, ⟨by simp only; omega, by simp only; omega⟩⟩, (h.pick [1, 2, 3, 4, 5] (by decide)).sub ⟨rfl, rfl, rfl, rfl, rfl, rfl, rfl, rfl, rfl, trivial⟩⟩
        · skip
          have hq4 := hc4; try simp at hq4
          refine gz h <| gS <| gx hK41 <| gr fun K43 hK43 => g0 (aj rfl) rfl <| g0 (dC (i := 0) uu105 zz3 rfl rfl (by decide)) rfl <| g1 3 rfl (aZ aa3 zz3 rfl rfl rfl (v := (.int .i64 (n.n0 + ((gt (ab l2) x59).b0)))) rfl) rfl <| g0 (iB rfl rfl) rfl <| g0 (dC (i := 1) uu105 zz3 rfl rfl (by decide)) rfl <| g1 3 rfl (aZ aa3 zz3 rfl rfl rfl (v := (.int .i64 (n.n1 + ((gt (ab l2) x59).b1)))) rfl) rfl <| g0 (iB rfl rfl) rfl <| gc (ow (cap := []) Tryz.call47 rfl rfl) (kk (iL (decide ((n.n0 + ((gt (ab l2) x59).b0)) > 0)) (decide ((n.n1 + ((gt (ab l2) x59).b1)) > 0)))) rfl <| g0 (ah rfl) rfl <| gn hK43 <| gq fun K44 hK44 => gB <| gr fun K45 hK45 => g0 (aj rfl) rfl <| g0 (aj rfl) rfl <| ge1 rfl rfl (fun hg => (Rd.of_nil (aj rfl)).step) rfl <| ge1 rfl rfl (fun hg => (Rd.of_nil (eU (bo rfl hg))).step) rfl <| g0 (gH rfl (fun e => (bo rfl e))) rfl <| g0 (ah rfl) rfl <| gn hK45 ?_; clear h ac wo; intro ac wo h
          refine c8 h rfl (fun hc5 => ?_) (fun hc5 => ?_)
          · skip
            have hq5 := hc5; try simp at hq5
            refine gz h <| gR <| g0 (fa uu107 rfl zz92 rfl rfl rfl (k' := 0)) rfl <| g1 0 rfl (aZ aa92 zz92 rfl rfl rfl (v := (vW ((gt (ab l2) x59).at_))) rfl) rfl <| gs 2 (cW ((gt (ab l2) x59).at_)) rfl zz92 rfl rfl rfl rfl rfl rfl rfl <| gx (fun _ _ => aE) ?_; clear h ac wo; intro ac wo h
            replace h := h.sub (F' := [(2, (.func (.func 47) #[] #[])), (7, l2v), (14, outv), (15, (ptr b8 0)), (16, (ptr b9 0)), (57, l2v), (58, (.int .i64 (((ab l2).length : Nat) : Int))), (59, (.int .i64 ((x59 : Nat) : Int))), (20, (.bool (aP (decide ((n.n0 + ((gt (ab l2) x59).b0)) > 0)) (decide ((n.n1 + ((gt (ab l2) x59).b1)) > 0)))))]) ⟨rfl, rfl, rfl, rfl, rfl, rfl, rfl, rfl, rfl, trivial⟩
            refine gz h <| gN <| gx hK44 <| gR <| g0 (aj rfl) rfl <| g0 (ah rfl) rfl <| gx (fun _ _ => aE) <| gN <| gx hK38 <| gR <| g0 (bO rfl rfl (r := ((x59 + 1 : Nat) : Int)) (by rw [IntKind.wrap_i64]; first | omega | grind)) rfl <| g0 (aj rfl) rfl <| gx (fun _ _ => aE) ?_; clear h ac wo; intro ac wo h
            exact aR ⟨m3, (by omega), _, _, _, _, _, _, (by first | omega | grind), cC hL3 (show bH a b l x32 l2 x322 out in_ x59 from_ n = .go _ from (Eq.trans (cT hc3) (Eq.trans (cF hc4) (cT hc5)))), (by first | omega | grind), zout, (All.gt s11.2.1 (gk _)), (by first | omega | grind), ⟨⟨by simp only; omega, by simp only; omega⟩, ⟨by simp only; omega, by simp only; omega⟩⟩, (h.pick [1, 2, 3, 4, 5] (by decide)).sub ⟨rfl, rfl, rfl, rfl, rfl, rfl, rfl, rfl, rfl, trivial⟩⟩
          · skip
            have hq5 := hc5; try simp at hq5
            refine gz h <| gr fun K46 hK46 => g0 (aj rfl) rfl <| g0 (eU rfl) rfl <| g0 (aj rfl) rfl <| ge1 rfl rfl (fun hg => (Rd.of_nil (aj rfl)).step) rfl <| g0 (gH rfl (fun e => (bo rfl e))) rfl <| g0 (ah rfl) rfl <| gn hK46 ?_; clear h ac wo; intro ac wo h
            replace h := h.sub (F' := [(2, (.func (.func 47) #[] #[])), (7, l2v), (14, outv), (15, (ptr b8 0)), (16, (ptr b9 0)), (57, l2v), (58, (.int .i64 (((ab l2).length : Nat) : Int))), (59, (.int .i64 ((x59 : Nat) : Int))), (19, (ptr b10 0)), (20, (.bool (aP (decide ((n.n0 + ((gt (ab l2) x59).b0)) > 0)) (decide ((n.n1 + ((gt (ab l2) x59).b1)) > 0))))), (111, (.bool ((!(aP (decide ((n.n0 + ((gt (ab l2) x59).b0)) > 0)) (decide ((n.n1 + ((gt (ab l2) x59).b1)) > 0)))) && in_)))]) ⟨rfl, rfl, rfl, rfl, rfl, rfl, rfl, rfl, rfl, rfl, rfl, trivial⟩
            refine c8 h rfl (fun hc6 => ?_) (fun hc6 => ?_)
            · skip
              have hq6 := hc6; try simp at hq6
              have c16 := fJ from_ ((gt (ab l2) x59).at_) zfrom_ (All.gt s11.2.1 (gk _))
              have s16 := Calls.pr (c16 w0)
              refine gz h <| gR <| g0 (aj rfl) rfl <| g1 2 rfl (aZ aa92 zz92 rfl rfl rfl (v := (vW from_)) rfl) rfl <| g0 (fa uu107 rfl zz92 rfl rfl rfl (k' := 0)) rfl <| g1 0 rfl (aZ aa92 zz92 rfl rfl rfl (v := (vW ((gt (ab l2) x59).at_))) rfl) rfl <| gc (bh Tryz.call74 rfl) (kk c16) rfl ?_; clear h ac wo; intro ac wo h
              refine nw h (dg (α := Iv) (xs := [.tmp 121]) (vs := [(vV (a8 from_ ((gt (ab l2) x59).at_)))]) [(a8 from_ ((gt (ab l2) x59).at_))] ic rfl rfl rfl (by decide)) rfl ?_; clear h ac wo; intro sv17 ac wo nnsv17 h
              refine on2 h 2 0 rfl rfl (eM (xs := out) (ys := [(a8 from_ ((gt (ab l2) x59).at_))]) ic (fun w hs => (row_view hs 0 rfl)) rfl rfl (by first | omega | grind)) rfl ?_; clear h ac wo; intro sv18 ac wo apsv18 h
              refine rd0 h (ah rfl) rfl <| gx (fun _ _ => aE) <| gN <| gx hK44 <| gR <| g0 (aj rfl) rfl <| g0 (ah rfl) rfl <| gx (fun _ _ => aE) <| gN <| gx hK38 <| gR <| g0 (bO rfl rfl (r := ((x59 + 1 : Nat) : Int)) (by rw [IntKind.wrap_i64]; first | omega | grind)) rfl <| g0 (aj rfl) rfl <| gx (fun _ _ => aE) ?_; clear h ac wo; intro ac wo h
              exact aR ⟨m3, (by omega), _, _, _, _, _, _, (by first | omega | grind), cC hL3 (show bH a b l x32 l2 x322 out in_ x59 from_ n = .go _ from (Eq.trans (cT hc3) (Eq.trans (cF hc4) (Eq.trans (cF hc5) (cT hc6))))), (by first | omega | grind), (All.app zout (All.cons s16 All.nil)), zfrom_, (by first | omega | grind), ⟨⟨by simp only; omega, by simp only; omega⟩, ⟨by simp only; omega, by simp only; omega⟩⟩, (h.pick [0, 3, 4, 5, 6] (by decide)).sub ⟨rfl, rfl, rfl, rfl, rfl, rfl, rfl, rfl, rfl, trivial⟩⟩
            · skip
              have hq6 := hc6; try simp at hq6
              refine gz h <| gS <| gN <| gx hK44 <| gR <| g0 (aj rfl) rfl <| g0 (ah rfl) rfl <| gx (fun _ _ => aE) <| gN <| gx hK38 <| gR <| g0 (bO rfl rfl (r := ((x59 + 1 : Nat) : Int)) (by rw [IntKind.wrap_i64]; first | omega | grind)) rfl <| g0 (aj rfl) rfl <| gx (fun _ _ => aE) ?_; clear h ac wo; intro ac wo h
              exact aR ⟨m3, (by omega), _, _, _, _, _, _, (by first | omega | grind), cC hL3 (show bH a b l x32 l2 x322 out in_ x59 from_ n = .go _ from (Eq.trans (cT hc3) (Eq.trans (cF hc4) (Eq.trans (cF hc5) (cF hc6))))), (by first | omega | grind), zout, zfrom_, (by first | omega | grind), ⟨⟨by simp only; omega, by simp only; omega⟩, ⟨by simp only; omega, by simp only; omega⟩⟩, (h.pick [1, 2, 3, 4, 5] (by decide)).sub ⟨rfl, rfl, rfl, rfl, rfl, rfl, rfl, rfl, rfl, trivial⟩⟩
      · skip
        have hd3 := of_decide_eq_false hc3
        refine dW ?_
        have hx3 := ej hL3 (show bH a b l x32 l2 x322 out in_ x59 from_ n = .out (out, in_, x59, from_, n) from (cF hc3))
        refine gz h <| gx hK34 <| gr fun K47 hK47 => g0 (aj rfl) rfl <| g0 (ah rfl) rfl <| gn hK47 <| gT ?_; clear h ac wo; intro ac wo h
        have hd : dT a b = out := (Eq.trans (fe (hX1.trans hx1)) (Eq.trans (fe (hX2.trans hx2)) (fe (hX3.trans hx3))))
        exact ret h rfl (.tmp rfl .nil) rfl (by rw [hd]; exact h.retR 0 rfl ⟨zout, (by first | omega | grind)⟩)
attribute [irreducible] dT
def af (a : List Iv) (b : List Iv) : (List Iv) :=
 (dT a b)
theorem jf (a : List Iv) (av : Value) (b : List Iv) (bv : Value) (hla : a.length ≤ 200) (hlb : b.length ≤ 200) (hwa : ∀ i ∈ a, Wv i) (hwb : ∀ i ∈ b, Wv i) (za : All (SzV 30) a) (zb : All (SzV 30) b) (w0 : World) (hav : View w0 av a) (hbv : View w0 bv b) : Calls Tryz.prog 11 #[av, bv] w0 (RetR w0 66 (af a b) (All (SzV 30) (af a b) ∧ (af a b).length ≤ 2 * a.length + 2 * b.length)) := by
 refine enter (N := 8) (args := [av, bv]) Tryz.func11 rfl rfl ?_; intro ac h
 have hlena := hav.len
 have hlenb := hbv.len
 refine bB fun K1 hK1 => ?_
 refine rd0 h (ah rfl) rfl <| gn hK1 <| gr fun K2 hK2 => g0 (aj rfl) rfl <| g0 (aj rfl) rfl ?_; clear h ac; intro ac wo h
 have s1 := RetR.pr ((fun w_ hB_ hS_ => g8 a av b bv (by first | omega | grind) (by first | omega | grind) (by first | omega | grind) (by first | omega | grind) za zb w_ (hav.below hB_) (hbv.below hB_)) _ h.bel h.sep)
 have p2 := s1.2
 refine io (xs := (dT a b)) h (bh Tryz.call46 rfl) (fun w_ hB_ hS_ => g8 a av b bv (by first | omega | grind) (by first | omega | grind) (by first | omega | grind) (by first | omega | grind) za zb w_ (hav.below hB_) (hbv.below hB_)) rfl ?_; clear h ac wo; intro sv3 ac wo _ h
 refine rd0 h (ah rfl) rfl <| gn hK2 <| gT ?_; clear h ac wo; intro ac wo h
 exact ret h rfl (.tmp rfl .nil) rfl (by unfold af; exact h.retR 0 rfl ⟨s1.1, (by first | omega | grind)⟩)
attribute [irreducible] af
end Go.Sx
