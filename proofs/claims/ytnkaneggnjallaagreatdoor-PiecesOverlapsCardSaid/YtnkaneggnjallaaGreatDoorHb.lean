/- A part of the proof that the law PiecesOverlaps answers true at every input and leaves its arguments as they were. -/
import Derived.Test.YtnkaneggnjallaaGreatDoorH6
set_option linter.unusedVariables false
set_option linter.unusedSimpArgs false
open Go.Proofs.Tryz renaming runUnderlying59 → uu59, sizeOf5 → zz5, isAgg5 → aa5, runUnderlying5 → uu5, runUnderlying3 → uu3, sizeOf4 → zz4, isAgg4 → aa4, sizeOf55 → zz55, runUnderlying55 → uu55, isAgg55 → aa55, sizeOf57 → zz57, runUnderlying149 → uu149, runUnderlying26 → uu26, sizeOf158 → zz158, runUnderlying158 → uu158, sizeOf53 → zz53
namespace Go.Sx
open Go Go.RowKit Go.Proofs
set_option maxRecDepth 100000
set_option maxHeartbeats 40000000
attribute [local irreducible] ax ch aq aL cn bj aI bb cE bu aC
theorem fz : SlT Tryz.prog 24 87 32 360 [.bool false, .string ⟨#[]⟩, .bool false, .string ⟨#[]⟩, .bool false, .string ⟨#[]⟩, .bool false, .string ⟨#[]⟩, .bool false, .bool false, .string ⟨#[]⟩, .bool false, .string ⟨#[]⟩, .bool false, .string ⟨#[]⟩, .bool false, .string ⟨#[]⟩, .bool false, .bool false, .bool false, .bool false, .string ⟨#[]⟩, .bool false, .string ⟨#[]⟩, .bool false, .string ⟨#[]⟩, .bool false, .string ⟨#[]⟩, .bool false, .string ⟨#[]⟩, .bool false, .string ⟨#[]⟩] := ⟨Tryz.underlying24, Tryz.t87, _, Tryz.type87, rfl, rfl, rfl, rfl, rfl, by decide, by decide⟩
def aP (x : Loo) : (U Int) :=
 bif (((((x.length % 4) : Nat) : Int)) == (((0 : Nat) : Int))) then
  (⟨(⟨(am (((x.frm % 12) : Nat) : Int) x.root), (am (((x.frm % 12) + (x.length % 4) : Nat) : Int) x.root), false, false⟩ : Iv), (((x.label % 3) : Nat) : Int)⟩ : U Int)
 else
  (⟨(⟨(am (((x.frm % 12) : Nat) : Int) x.root), (am (((x.frm % 12) + (x.length % 4) : Nat) : Int) x.root), x.openA, x.openB⟩ : Iv), (((x.label % 3) : Nat) : Int)⟩ : U Int)
theorem gF (x : Loo) (w0 : World)  : Calls Tryz.prog 26 #[(vL x)] w0 (ec w0 (vUI (aP x)) (iH 30 (aP x))) := by
  refine enter (N := 39) (args := [(vL x)]) Tryz.func26 rfl rfl ?_; intro ac h
  refine dQ fun K1 hK1 => ?_
  refine bx h (cL x) rfl rfl rfl fun b1 => ga (cUI (⟨(⟨(⟨oQ, oQ, false⟩ : GR), (⟨oQ, oQ, false⟩ : GR), false, false⟩ : Iv), 0⟩ : U Int)) Tryz.zeroValue57 rfl rfl fun b2 => gn hK1 <| gr fun K2 hK2 => g0 (bH uu59 rfl zz5 (by decide) rfl rfl (k' := 0)) rfl <| g1 1 rfl (aT aa5 zz5 rfl rfl rfl (v := (.int .u8 ((x.frm : Nat) : Int))) rfl) rfl <| g0 (kw rfl rfl (r := (((x.frm % 12) : Nat) : Int)) (by first | decide | omega) (by rw [Int.tmod_eq_emod_of_nonneg (by omega)]; rfl)) rfl <| g0 (aV uu5 uu3 rfl (r := (((x.frm % 12) : Nat) : Int)) (by rw [IntKind.wrap_i64]; first | omega | grind)) rfl <| g0 (ag rfl) rfl <| gn hK2 <| gq fun K3 hK3 => ?_; clear h ac; intro ac wo h
  have s1 := Calls.pr ((fun w_ hB_ hS_ => d1 (((x.frm % 12) : Nat) : Int) x.root (by omega) w_ ) _ h.bel h.sep)
  have s2 := Calls.pr ((fun w_ hB_ hS_ => d1 (((x.frm % 12) + (x.length % 4) : Nat) : Int) x.root (by omega) w_ ) _ h.bel h.sep)
  replace h := h.emps 1
  refine cu mixed [⟨.det (.int .i64 (((x.frm % 12) : Nat) : Int)), []⟩, ⟨.det (ptr b1 3), []⟩, ⟨.det (.bool x.root), [1]⟩, ⟨.det (vR (am (((x.frm % 12) : Nat) : Int) x.root)), []⟩, ⟨.det (.int .i64 (((x.frm % 12) : Nat) : Int)), []⟩, ⟨.det (ptr b1 1), []⟩, ⟨.det (.int .u8 ((x.length : Nat) : Int)), [1]⟩, ⟨.det (.int .u8 (((x.length % 4) : Nat) : Int)), []⟩, ⟨.det (.int .i64 (((x.length % 4) : Nat) : Int)), []⟩, ⟨.det (.int .i64 (((x.frm % 12) + (x.length % 4) : Nat) : Int)), []⟩, ⟨.det (ptr b1 3), []⟩, ⟨.det (.bool x.root), [1]⟩, ⟨.det (vR (am (((x.frm % 12) + (x.length % 4) : Nat) : Int) x.root)), []⟩, ⟨.det (ptr b1 4), []⟩, ⟨.det (.bool x.openA), [1]⟩, ⟨.det (ptr b1 5), []⟩, ⟨.det (.bool x.openB), [1]⟩, ⟨.det (vV (⟨(am (((x.frm % 12) : Nat) : Int) x.root), (am (((x.frm % 12) + (x.length % 4) : Nat) : Int) x.root), x.openA, x.openB⟩ : Iv)), []⟩, ⟨.nd (.one 18 fun v => ∃ b, v = ptr b 0), [2]⟩, ⟨.det undef, [2]⟩] [⟨.blk b2 (cUI (⟨(⟨(⟨oQ, oQ, false⟩ : GR), (⟨oQ, oQ, false⟩ : GR), false, false⟩ : Iv), 0⟩ : U Int)) 57, []⟩, ⟨.blk b1 (cL x) 59, []⟩, ⟨.emp, [(18, .one 18 fun v => .blk (eu v) (cV (⟨(⟨oQ, oQ, false⟩ : GR), (⟨oQ, oQ, false⟩ : GR), false, false⟩ : Iv)) 55), (19, .one 18 fun v => .blk (eu v) (cV (⟨(am (((x.frm % 12) : Nat) : Int) x.root), (am (((x.frm % 12) + (x.length % 4) : Nat) : Int) x.root), x.openA, x.openB⟩ : Iv)) 55)]⟩] h rfl (by kernel_rfl) ⟨?_, ?_, ?_, ?_, ?_, ?_, ?_, ?_, ?_, ?_, ?_, ?_, ?_, ?_, ?_, ?_, ?_, ?_, ?_, ?_, trivial⟩ ?_
  · intro ξ hφ; exact aw (af rfl)
  · intro ξ hφ; exact aw (bH uu59 rfl zz4 (by decide) rfl rfl (k' := 3))
  · intro ξ hφ; exact cM [.blk b1 (cL x) 59] rfl rfl (aT aa4 zz4 rfl rfl rfl (v := (.bool x.root)) rfl)
  · intro ξ hφ; exact dU (dO (vs := [(.int .i64 (((x.frm % 12) : Nat) : Int)), (.bool x.root)]) (cB Tryz.call28 rfl) (fun w_ hB_ hS_ => d1 (((x.frm % 12) : Nat) : Int) x.root (by omega) w_ ))
  · intro ξ hφ; exact aw (af rfl)
  · intro ξ hφ; exact aw (bH uu59 rfl zz5 (by decide) rfl rfl (k' := 1))
  · intro ξ hφ; exact cM [.blk b1 (cL x) 59] rfl rfl (aT aa5 zz5 rfl rfl rfl (v := (.int .u8 ((x.length : Nat) : Int))) rfl)
  · intro ξ hφ; exact aw (kw rfl rfl (r := (((x.length % 4) : Nat) : Int)) (by first | decide | omega) (by rw [Int.tmod_eq_emod_of_nonneg (by omega)]; rfl))
  · intro ξ hφ; exact aw (aV uu5 uu3 rfl (r := (((x.length % 4) : Nat) : Int)) (by rw [IntKind.wrap_i64]; first | omega | grind))
  · intro ξ hφ; exact aw (bt rfl rfl (r := (((x.frm % 12) + (x.length % 4) : Nat) : Int)) (by rw [IntKind.wrap_i64]; first | omega | grind))
  · intro ξ hφ; exact aw (bH uu59 rfl zz4 (by decide) rfl rfl (k' := 3))
  · intro ξ hφ; exact cM [.blk b1 (cL x) 59] rfl rfl (aT aa4 zz4 rfl rfl rfl (v := (.bool x.root)) rfl)
  · intro ξ hφ; exact dU (dO (cB Tryz.call28 rfl) (kk (d1 (((x.frm % 12) + (x.length % 4) : Nat) : Int) x.root (by omega))))
  · intro ξ hφ; exact aw (bH uu59 rfl zz4 (by decide) rfl rfl (k' := 4))
  · intro ξ hφ; exact cM [.blk b1 (cL x) 59] rfl rfl (aT aa4 zz4 rfl rfl rfl (v := (.bool x.openA)) rfl)
  · intro ξ hφ; exact aw (bH uu59 rfl zz4 (by decide) rfl rfl (k' := 5))
  · intro ξ hφ; exact cM [.blk b1 (cL x) 59] rfl rfl (aT aa4 zz4 rfl rfl rfl (v := (.bool x.openB)) rfl)
  · intro ξ hφ; exact aw (bK jl rfl rfl (v := (vV (⟨(am (((x.frm % 12) : Nat) : Int) x.root), (am (((x.frm % 12) + (x.length % 4) : Nat) : Int) x.root), x.openA, x.openB⟩ : Iv))) rfl)
  · intro ξ hφ; exact kx (ψ := fun v => ∃ b, v = ptr b 0) (B := fun v => [.blk (eu v) (cV (⟨(⟨oQ, oQ, false⟩ : GR), (⟨oQ, oQ, false⟩ : GR), false, false⟩ : Iv)) 55]) [.emp] rfl (fun v _ => by simp only [ef, bJ] <;> rfl) (fun v hv => by simpa [DF.one, bJ] using hv) (jo (iV Tryz.zeroValue55 rfl))
  · intro ξ hφ; obtain ⟨b3, hb18⟩ := hφ 18 rfl; exact g5 [.blk b3 (cV (⟨(⟨oQ, oQ, false⟩ : GR), (⟨oQ, oQ, false⟩ : GR), false, false⟩ : Iv)) 55] [.blk b3 (cV (⟨(am (((x.frm % 12) : Nat) : Int) x.root), (am (((x.frm % 12) + (x.length % 4) : Nat) : Int) x.root), x.openA, x.openB⟩ : Iv)) 55] (congrArg (fun v => [Asn.blk (eu v) (cV (⟨(⟨oQ, oQ, false⟩ : GR), (⟨oQ, oQ, false⟩ : GR), false, false⟩ : Iv)) 55]) hb18) (congrArg (fun v => [Asn.blk (eu v) (cV (⟨(am (((x.frm % 12) : Nat) : Int) x.root), (am (((x.frm % 12) + (x.length % 4) : Nat) : Int) x.root), x.openA, x.openB⟩ : Iv)) 55]) hb18) (iN zz55 (Eq.trans rfl (congrArg some hb18)) rfl rfl rfl rfl rfl rfl)
  clear h ac wo; intro ξ ac wo hφ h
  replace h : St w0 39 [(1, (ptr b1 0)), (2, (ptr b2 0)), (4, ξ 18)] [.blk b2 (cUI (⟨(⟨(⟨oQ, oQ, false⟩ : GR), (⟨oQ, oQ, false⟩ : GR), false, false⟩ : Iv), 0⟩ : U Int)) 57, .blk b1 (cL x) 59, .blk (eu (ξ 18)) (cV (⟨(am (((x.frm % 12) : Nat) : Int) x.root), (am (((x.frm % 12) + (x.length % 4) : Nat) : Int) x.root), x.openA, x.openB⟩ : Iv)) 55] ac wo := (h.pick [0, 1, 2] (by decide)).sub ⟨rfl, rfl, rfl, trivial⟩
  revert h
  obtain ⟨b3, hb18⟩ : ∃ b, ξ 18 = ptr b 0 := hφ 18
  rw [hb18]; intro h
  clear hb18
  clear hφ ξ
  refine gz h <| gx hK3 <| gq fun K4 hK4 => gr fun K5 hK5 => g0 (bH uu59 rfl zz5 (by decide) rfl rfl (k' := 1)) rfl <| g1 1 rfl (aT aa5 zz5 rfl rfl rfl (v := (.int .u8 ((x.length : Nat) : Int))) rfl) rfl <| g0 (kw rfl rfl (r := (((x.length % 4) : Nat) : Int)) (by first | decide | omega) (by rw [Int.tmod_eq_emod_of_nonneg (by omega)]; rfl)) rfl <| g0 (fF rfl rfl (m := (((x.length % 4) : Nat) : Int)) (n := ((0 : Nat) : Int))) rfl <| gn hK5 ?_; clear h ac wo; intro ac wo h
  refine cN h rfl (fun hc1 => ?_) (fun hc1 => ?_)
  · skip
    have hd1 := eq_of_beq hc1
    refine gz h <| gR <| g0 (bH uu55 rfl zz4 (by decide) rfl rfl (k' := 18)) rfl <| gs 2 (cV (⟨(am (((x.frm % 12) : Nat) : Int) x.root), (am (((x.frm % 12) + (x.length % 4) : Nat) : Int) x.root), false, x.openB⟩ : Iv)) rfl zz4 rfl rfl rfl rfl rfl rfl rfl <| g0 (bH uu55 rfl zz4 (by decide) rfl rfl (k' := 19)) rfl <| gs 2 (cV (⟨(am (((x.frm % 12) : Nat) : Int) x.root), (am (((x.frm % 12) + (x.length % 4) : Nat) : Int) x.root), false, false⟩ : Iv)) rfl zz4 rfl rfl rfl rfl rfl rfl rfl <| gn hK4 <| gr fun K6 hK6 => g1 2 rfl (aT aa55 zz55 rfl rfl rfl (v := (vV (⟨(am (((x.frm % 12) : Nat) : Int) x.root), (am (((x.frm % 12) + (x.length % 4) : Nat) : Int) x.root), false, false⟩ : Iv))) rfl) rfl <| g0 (bH uu59 rfl zz5 (by decide) rfl rfl (k' := 2)) rfl <| g1 1 rfl (aT aa5 zz5 rfl rfl rfl (v := (.int .u8 ((x.label : Nat) : Int))) rfl) rfl <| g0 (kw rfl rfl (r := (((x.label % 3) : Nat) : Int)) (by first | decide | omega) (by rw [Int.tmod_eq_emod_of_nonneg (by omega)]; rfl)) rfl <| g0 (aV uu5 uu3 rfl (r := (((x.label % 3) : Nat) : Int)) (by rw [IntKind.wrap_i64]; first | omega | grind)) rfl <| g0 (bK lI rfl rfl (v := (vUI (⟨(⟨(am (((x.frm % 12) : Nat) : Int) x.root), (am (((x.frm % 12) + (x.length % 4) : Nat) : Int) x.root), false, false⟩ : Iv), (((x.label % 3) : Nat) : Int)⟩ : U Int))) rfl) rfl <| gs 0 (cUI (⟨(⟨(am (((x.frm % 12) : Nat) : Int) x.root), (am (((x.frm % 12) + (x.length % 4) : Nat) : Int) x.root), false, false⟩ : Iv), (((x.label % 3) : Nat) : Int)⟩ : U Int)) rfl zz57 rfl rfl rfl rfl rfl rfl rfl <| gn hK6 <| gT ?_; clear h ac wo; intro ac wo h
    have hd : aP x = (⟨(⟨(am (((x.frm % 12) : Nat) : Int) x.root), (am (((x.frm % 12) + (x.length % 4) : Nat) : Int) x.root), false, false⟩ : Iv), (((x.label % 3) : Nat) : Int)⟩ : U Int) := (cT hc1)
    exact ret h rfl (.cell (v := (vUI (⟨(⟨(am (((x.frm % 12) : Nat) : Int) x.root), (am (((x.frm % 12) + (x.length % 4) : Nat) : Int) x.root), false, false⟩ : Iv), (((x.label % 3) : Nat) : Int)⟩ : U Int))) rfl (i := 0) rfl Tryz.isAgg57 zz57 rfl rfl rfl .nil) rfl (h.retP (by rw [hd] <;> rfl) (by rw [hd]; exact ⟨(ed s1 (by omega)), (ed s2 (by omega))⟩))
  · skip
    have hd1 := ne_of_beq_false hc1
    refine gz h <| gS <| gx hK4 <| gr fun K7 hK7 => g1 2 rfl (aT aa55 zz55 rfl rfl rfl (v := (vV (⟨(am (((x.frm % 12) : Nat) : Int) x.root), (am (((x.frm % 12) + (x.length % 4) : Nat) : Int) x.root), x.openA, x.openB⟩ : Iv))) rfl) rfl <| g0 (bH uu59 rfl zz5 (by decide) rfl rfl (k' := 2)) rfl <| g1 1 rfl (aT aa5 zz5 rfl rfl rfl (v := (.int .u8 ((x.label : Nat) : Int))) rfl) rfl <| g0 (kw rfl rfl (r := (((x.label % 3) : Nat) : Int)) (by first | decide | omega) (by rw [Int.tmod_eq_emod_of_nonneg (by omega)]; rfl)) rfl <| g0 (aV uu5 uu3 rfl (r := (((x.label % 3) : Nat) : Int)) (by rw [IntKind.wrap_i64]; first | omega | grind)) rfl <| g0 (bK lI rfl rfl (v := (vUI (⟨(⟨(am (((x.frm % 12) : Nat) : Int) x.root), (am (((x.frm % 12) + (x.length % 4) : Nat) : Int) x.root), x.openA, x.openB⟩ : Iv), (((x.label % 3) : Nat) : Int)⟩ : U Int))) rfl) rfl <| gs 0 (cUI (⟨(⟨(am (((x.frm % 12) : Nat) : Int) x.root), (am (((x.frm % 12) + (x.length % 4) : Nat) : Int) x.root), x.openA, x.openB⟩ : Iv), (((x.label % 3) : Nat) : Int)⟩ : U Int)) rfl zz57 rfl rfl rfl rfl rfl rfl rfl <| gn hK7 <| gT ?_; clear h ac wo; intro ac wo h
    have hd : aP x = (⟨(⟨(am (((x.frm % 12) : Nat) : Int) x.root), (am (((x.frm % 12) + (x.length % 4) : Nat) : Int) x.root), x.openA, x.openB⟩ : Iv), (((x.label % 3) : Nat) : Int)⟩ : U Int) := (cF hc1)
    exact ret h rfl (.cell (v := (vUI (⟨(⟨(am (((x.frm % 12) : Nat) : Int) x.root), (am (((x.frm % 12) + (x.length % 4) : Nat) : Int) x.root), x.openA, x.openB⟩ : Iv), (((x.label % 3) : Nat) : Int)⟩ : U Int))) rfl (i := 0) rfl Tryz.isAgg57 zz57 rfl rfl rfl .nil) rfl (h.retP (by rw [hd] <;> rfl) (by rw [hd]; exact ⟨(ed s1 (by omega)), (ed s2 (by omega))⟩))
attribute [irreducible] aP
end Go.Sx
namespace Go.Sx
open Go Go.RowKit Go.Proofs
set_option maxRecDepth 100000
set_option maxHeartbeats 40000000
attribute [local irreducible] ax ch aq aL cn bj aI bb cE bu aC
def fT (l : List (U Int)) (i : Nat) : Bool :=
 false
def dW (l : List (U Int)) (i : Nat) (n : Nat) (k2 : Nat) : Nx Nat Bool :=
 bif (decide (((n : Nat) : Int) > 1)) then
  .ret true
 else
  .go (i + 1)
def bg (l : List (U Int)) (i : Nat) (n : Nat) (k2 : Nat) : Nx (Nat × Nat) Bool :=
 bif (decide (((k2 : Nat) : Int) < ((l.length : Nat) : Int))) then
  bif (az ((gt l k2).iv) ((gt (ao l (ak l ([]))) i).frm) ((gt (ao l (ak l ([]))) i).til) ((gt (ao l (ak l ([]))) i).gap)) then
   .go ((n + 1), (k2 + 1))
  else
   .go (n, (k2 + 1))
 else
  .out (n, k2)
def bF (l : List (U Int)) (i : Nat) : Nx Nat Bool :=
 bif (decide (((i : Nat) : Int) < (((ao l (ak l ([]))).length : Nat) : Int))) then
  fin (bM (fun s => bg l i s.1 s.2) ((l.length - 0) + 1) (0, 0)) (fun s => dW l i s.1 s.2) (fun r => .ret r)
 else
  .out i
def ba (l : List (U Int)) : Bool :=
 fin (bM (fun s => bF l s) (((ao l (ak l [])).length - 0) + 1) 0) (fun s => fT l s) (fun r => r)
theorem fS (l : List (U Int)) (lv : Value) (hl : l.length ≤ 100) (zl : All (iH 30) l) (w0 : World) (hlv : View w0 lv l) : Calls Tryz.prog 27 #[lv] w0 (ec w0 (.bool (ba l)) (True)) := by
 refine enter (N := 48) (args := [lv]) Tryz.func27 rfl rfl ?_; intro ac h
 have hlenl := hlv.len
 refine dQ fun K1 hK1 => ?_
 refine rd0 h (ag rfl) rfl <| gn hK1 <| gr fun K2 hK2 => g0 (af rfl) rfl <| g0 (af rfl) rfl ?_; clear h ac; intro ac wo h
 replace h := h.nilRow (α := GR) 53
 refine on1 h 0 rfl (kv (vs := [lv, (.slice none 0 0)]) (A := fun v => [.row (α := GR) 53 v (ak l ([]))]) (cB Tryz.call90 rfl) (fun w_ B_ hB_ hS_ => fd l lv ([]) (.slice none 0 0) (by first | omega | assumption | grind) (by first | omega | assumption | grind) zl All.nil w0 w_ B_ hB_ hS_ hlv)) rfl ?_; clear h ac wo; intro sv2 ac wo s3 h
 have p4 := s3.2
 have s5 := RetR.pr ((fun w_ hB_ hS_ => dJ l lv (ak l ([])) sv2 (by first | omega | assumption | grind) (by first | omega | assumption | grind) zl s3.1 w_ (hlv.below hB_) (row_view hS_ 0 rfl)) _ h.bel h.sep)
 have p6 := s5.2
 have p6_0 := p6.1
 have p6_1 := p6.2
 refine kE (xs := (ao l (ak l ([])))) h (cB Tryz.call89 rfl) (fun w_ hB_ hS_ => dJ l lv (ak l ([])) sv2 (by first | omega | assumption | grind) (by first | omega | assumption | grind) zl s3.1 w_ (hlv.below hB_) (row_view hS_ 0 rfl)) rfl ?_; clear h ac wo; intro sv7 ac wo _ h
 refine rd0 h (ag rfl) rfl <| gn hK2 <| gq fun K3 hK3 => gr fun K4 hK4 => g0 (ag rfl) rfl <| gn hK4 <| gB ?_; clear h ac wo; intro ac wo h
 obtain ⟨X1, hX1⟩ : ∃ X, bM (fun s => bF l s) (((ao l (ak l [])).length - 0) + 1) 0 = X := ⟨_, rfl⟩
 refine wp_loop_ghost (fun n_ a_ w_ => ∃ (i : Nat), (((ao l (ak l [])).length - i) < n_) ∧ (bM (fun s => bF l s) n_ i = X1) ∧ (i ≤ (ao l (ak l [])).length) ∧ St w0 48 [(0, lv), (3, sv7), (4, (.int .i64 ((i : Nat) : Int)))] [.row (α := At Int) 158 sv7 (ao l (ak l ([]))), .row (α := GR) 53 sv2 (ak l ([]))] a_ w_) (((ao l (ak l [])).length - 0) + 1) ⟨0, (by omega), hX1, (by first | omega | assumption | grind), (h.sub ⟨rfl, rfl, rfl, trivial⟩)⟩ ?_
 clear h ac wo; rintro n1 ac wo ⟨i, hm1, hL1, hi, h⟩
 obtain ⟨m1, rfl⟩ : ∃ m, n1 = m + 1 := ⟨n1 - 1, by omega⟩
 refine gz h <| gq fun K5 hK5 => gr fun K6 hK6 => g0 (af rfl) rfl <| g0 (af rfl) rfl ?_; clear h ac wo; intro ac wo h
 refine rd0 h (db uu149 rfl (h.row_sl 0 rfl)) rfl <| g0 (dx rfl rfl) rfl <| gn hK6 ?_; clear h ac wo; intro ac wo h
 refine cN h rfl (fun hc1 => ?_) (fun hc1 => ?_)
 ·
  have hd1 := of_decide_eq_true hc1
  refine gz h <| gS <| gx hK5 <| gq fun K7 hK7 => gB <| gr fun K8 hK8 => g0 (ag rfl) rfl <| gn hK8 <| gq fun K9 hK9 => gr fun K10 hK10 => g0 (ag rfl) rfl <| gn hK10 <| gB ?_; clear h ac wo; intro ac wo h
  obtain ⟨X2, hX2⟩ : ∃ X, bM (fun s => bg l i s.1 s.2) ((l.length - 0) + 1) (0, 0) = X := ⟨_, rfl⟩
  refine wp_loop_ghost (fun n_ a_ w_ => ∃ (n : Nat) (k2 : Nat), ((l.length - k2) < n_) ∧ (bM (fun s => bg l i s.1 s.2) n_ (n, k2) = X2) ∧ (k2 ≤ l.length) ∧ (n ≤ k2) ∧ St w0 48 [(0, lv), (3, sv7), (4, (.int .i64 ((i : Nat) : Int))), (5, (.int .i64 ((n : Nat) : Int))), (6, (.int .i64 ((k2 : Nat) : Int)))] [.row (α := At Int) 158 sv7 (ao l (ak l ([]))), .row (α := GR) 53 sv2 (ak l ([]))] a_ w_) ((l.length - 0) + 1) ⟨0, 0, (by omega), hX2, (by first | omega | assumption | grind), (by first | omega | assumption | grind), (h.sub ⟨rfl, rfl, rfl, rfl, rfl, trivial⟩)⟩ ?_
  clear h ac wo; rintro n2 ac wo ⟨n, k2, hm2, hL2, hk2, hn, h⟩
  obtain ⟨m2, rfl⟩ : ∃ m, n2 = m + 1 := ⟨n2 - 1, by omega⟩
  refine gz h <| gq fun K11 hK11 => gr fun K12 hK12 => g0 (af rfl) rfl <| g0 (af rfl) rfl <| g0 (db uu26 rfl hlv.sl) rfl <| g0 (dx rfl rfl) rfl <| gn hK12 ?_; clear h ac wo; intro ac wo h
  refine cN h rfl (fun hc2 => ?_) (fun hc2 => ?_)
  ·
   have hd2 := of_decide_eq_true hc2
   refine dM ?_
   refine hK11 _ _ ?_
   refine cH fun K13 hK13 => ?_
   refine eI ?_
   refine cH fun K14 hK14 => ?_
   refine cu mixed [dv _, dv _, dv _, dv _, dv _, dv _, dv _, dv _, dv _, dw _ [0], dv _, dv _, dv _, dv _, dw _ [0], dv _, dv _, dv _, dv _, dw _ [0], dv _] [⟨_, []⟩, ⟨_, []⟩] h rfl (by kernel_rfl) ⟨fun _ _ => om rfl, fun _ _ => om rfl, fun _ _ => aw (cZ (i := k2) uu26 zz57 rfl rfl (hlv.nn (i := k2) (by first | omega | assumption | grind)) (by first | omega | assumption | grind)), fun _ _ => aw (bV Tryz.runUnderlying57 rfl zz55 (by decide) (hlv.nn (i := 0) (by first | omega | assumption | grind)) rfl rfl (k' := k2 * 21 + 0)), fun _ _ => aw (eB (k := 0) aa55 zz55 hlv (bk (by first | omega | assumption | grind)) rfl rfl rfl rfl (v := (vV ((gt l k2).iv))) rfl), fun _ _ => om rfl, fun _ _ => om rfl, fun _ _ => aw (cZ (i := i) uu149 zz158 rfl rfl (h.row_nn 0 rfl (by first | omega | assumption | grind)) (by first | omega | assumption | grind)), fun _ _ => aw (bV uu158 rfl zz53 (by decide) (h.row_nn 0 rfl (by first | omega | assumption | grind)) rfl rfl (k' := i * 21 + 0)), fun _ _ => cM _ rfl rfl (cA (k := 0) Tryz.isAgg53 zz53 (bk (by first | omega | assumption | grind)) rfl rfl rfl rfl (v := (vR ((gt (ao l (ak l ([]))) i).frm))) rfl), fun _ _ => om rfl, fun _ _ => om rfl, fun _ _ => aw (cZ (i := i) uu149 zz158 rfl rfl (h.row_nn 0 rfl (by first | omega | assumption | grind)) (by first | omega | assumption | grind)), fun _ _ => aw (bV uu158 rfl zz53 (by decide) (h.row_nn 0 rfl (by first | omega | assumption | grind)) rfl rfl (k' := i * 21 + 9)), fun _ _ => cM _ rfl rfl (cA (k := 9) Tryz.isAgg53 zz53 (bk (by first | omega | assumption | grind)) rfl rfl rfl rfl (v := (vR ((gt (ao l (ak l ([]))) i).til))) rfl), fun _ _ => om rfl, fun _ _ => om rfl, fun _ _ => aw (cZ (i := i) uu149 zz158 rfl rfl (h.row_nn 0 rfl (by first | omega | assumption | grind)) (by first | omega | assumption | grind)), fun _ _ => aw (bV uu158 rfl zz4 (by decide) (h.row_nn 0 rfl (by first | omega | assumption | grind)) rfl rfl (k' := i * 21 + 18)), fun _ _ => cM _ rfl rfl (cA (k := 18) aa4 zz4 (bk (by first | omega | assumption | grind)) rfl rfl rfl rfl (v := (.bool ((gt (ao l (ak l ([]))) i).gap))) rfl), fun _ _ => dU (dO (cB Tryz.call94 rfl) (kk (fw ((gt l k2).iv) ((gt (ao l (ak l ([]))) i).frm) ((gt (ao l (ak l ([]))) i).til) ((gt (ao l (ak l ([]))) i).gap) (All.gt zl (cK _)) (All.gt s5.1 (fD _)).1 (All.gt s5.1 (fD _)).2))), trivial⟩ ?_
   clear h ac wo; intro ξ ac wo hφ h
   replace h : St w0 48 [(0, lv), (3, sv7), (4, (.int .i64 ((i : Nat) : Int))), (5, (.int .i64 ((n : Nat) : Int))), (6, (.int .i64 ((k2 : Nat) : Int))), (43, (.bool (az ((gt l k2).iv) ((gt (ao l (ak l ([]))) i).frm) ((gt (ao l (ak l ([]))) i).til) ((gt (ao l (ak l ([]))) i).gap))))] [.row (α := At Int) 158 sv7 (ao l (ak l ([]))), .row (α := GR) 53 sv2 (ak l ([]))] ac wo := (h.pick [0, 1] (by decide)).sub ⟨rfl, rfl, rfl, rfl, rfl, rfl, trivial⟩
   clear hφ ξ
   refine hK14 _ _ ?_
   refine cN h rfl (fun hc3 => ?_) (fun hc3 => ?_)
   ·
    have hq3 := hc3; try simp at hq3
    refine gz h <| gR <| g0 (af rfl) rfl <| g0 (bt rfl rfl (r := ((n + 1 : Nat) : Int)) (by rw [IntKind.wrap_i64]; first | omega | grind)) rfl <| g0 (ag rfl) rfl <| gx (fun _ _ => bn) <| gN <| gx hK13 <| gR <| g0 (af rfl) rfl <| g0 (bt rfl rfl (r := ((k2 + 1 : Nat) : Int)) (by rw [IntKind.wrap_i64]; first | omega | grind)) rfl <| g0 (ag rfl) rfl <| gx (fun _ _ => bn) ?_; clear h ac wo; intro ac wo h
    exact aD ⟨m2, (by omega), _, _, (by first | omega | assumption | grind), bI hL2 (show bg l i n k2 = .go _ from (Eq.trans (cT hc2) (cT hc3))), (by first | omega | assumption | grind), (by first | omega | assumption | grind), (h.pick [0, 1] (by decide)).sub ⟨rfl, rfl, rfl, rfl, rfl, trivial⟩⟩
   ·
    have hq3 := hc3; try simp at hq3
    refine gz h <| gS <| gN <| gx hK13 <| gR <| g0 (af rfl) rfl <| g0 (bt rfl rfl (r := ((k2 + 1 : Nat) : Int)) (by rw [IntKind.wrap_i64]; first | omega | grind)) rfl <| g0 (ag rfl) rfl <| gx (fun _ _ => bn) ?_; clear h ac wo; intro ac wo h
    exact aD ⟨m2, (by omega), _, _, (by first | omega | assumption | grind), bI hL2 (show bg l i n k2 = .go _ from (Eq.trans (cT hc2) (cF hc3))), (by first | omega | assumption | grind), (by first | omega | assumption | grind), (h.pick [0, 1] (by decide)).sub ⟨rfl, rfl, rfl, rfl, rfl, trivial⟩⟩
  ·
   have hd2 := of_decide_eq_false hc2
   refine dC ?_
   have hx2 := de hL2 (show bg l i n k2 = .out (n, k2) from (cF hc2))
   refine gz h <| gx hK9 <| gr fun K15 hK15 => g0 (af rfl) rfl <| g0 (gY rfl rfl) rfl <| gn hK15 ?_; clear h ac wo; intro ac wo h
   refine cN h rfl (fun hc4 => ?_) (fun hc4 => ?_)
   ·
    have hd4 := of_decide_eq_true hc4
    refine gz h <| gr fun K16 hK16 => g0 (ag rfl) rfl <| gn hK16 <| gT ?_; clear h ac wo; intro ac wo h
    have hr1 := g8 hL1 (show bF l i = .ret true from (Eq.trans (cT hc1) (Eq.trans (eo (hX2.trans hx2)) (cT hc4))))
    have hd : ba l = true := (lr (hX1.trans hr1))
    exact ret h rfl (.tmp rfl .nil) rfl (h.retP (by rw [hd] <;> rfl) trivial)
   ·
    have hd4 := of_decide_eq_false hc4
    refine gz h <| gS <| gN <| gx hK7 <| gR <| g0 (af rfl) rfl <| g0 (bt rfl rfl (r := ((i + 1 : Nat) : Int)) (by rw [IntKind.wrap_i64]; first | omega | grind)) rfl <| g0 (ag rfl) rfl <| gx (fun _ _ => bn) ?_; clear h ac wo; intro ac wo h
    exact aD ⟨m1, (by omega), _, (by first | omega | assumption | grind), bI hL1 (show bF l i = .go _ from (Eq.trans (cT hc1) (Eq.trans (eo (hX2.trans hx2)) (cF hc4)))), (by first | omega | assumption | grind), (h.pick [0, 1] (by decide)).sub ⟨rfl, rfl, rfl, trivial⟩⟩
 ·
  have hd1 := of_decide_eq_false hc1
  refine dC ?_
  have hx1 := de hL1 (show bF l i = .out i from (cF hc1))
  refine gz h <| gx hK3 <| gr fun K17 hK17 => g0 (ag rfl) rfl <| gn hK17 <| gT ?_; clear h ac wo; intro ac wo h
  have hd : ba l = false := (eo (hX1.trans hx1))
  exact ret h rfl (.tmp rfl .nil) rfl (h.retP (by rw [hd] <;> rfl) trivial)
attribute [irreducible] ba
end Go.Sx
