/- A part of the proof that the law BracketOperates/Brackets/Logic answers true at every input and leaves its arguments as they were. -/
import Derived.Test.YtbnldpccdppmiaaGreatDoorP7
import Derived.Test.YtbnldpccdppmiaaGreatDoorP6
import Derived.Test.YtbnldpccdppmiaaGreatDoorP5
import Derived.Test.YtbnldpccdppmiaaGreatDoorPm
set_option linter.unusedVariables false
set_option linter.unusedSimpArgs false
open Go.Proofs.Tryz renaming runUnderlying64 → uu64, sizeOf42 → zz42, isAgg42 → aa42, isAgg64 → aa64, sizeOf64 → zz64, zeroValue66 → vv66, sizeOf66 → zz66, isAgg66 → aa66, runUnderlying26 → uu26, runUnderlying66 → uu66, runUnderlying72 → uu72
namespace Go.Sx
open Go Go.RowKit Go.Proofs
set_option maxRecDepth 100000
set_option maxHeartbeats 40000000
attribute [local irreducible] bm bV aq aJ aF dY
def dP (x : GR) (by_ : GQ) : GR :=
 (⟨(bn x.p by_), x.r, x.neg⟩ : GR)
theorem kW (x : GR) (by_ : GQ) (zx : SzR 30 x) (zby_ : SzQ 30 by_) (w0 : World)  : Calls Tryz.prog 80 #[(vR x), (vQ by_)] w0 (RetP w0 (vR (dP x by_)) (SzR 24 (dP x by_))) := by
 refine enter (N := 11) (args := [(vR x), (vQ by_)]) Tryz.func80 rfl rfl ?_; intro ac h
 have c1 := er x.p by_ 27 (by omega) zx.1 zby_
 have s1 := aG (c1 w0)
 refine cz fun K1 hK1 => ?_
 refine bx h (cR x) rfl rfl rfl fun b1 => gb (cQ by_) rfl rfl rfl fun b2 => ga (cR (⟨oQ, oQ, false⟩ : GR)) Tryz.zeroValue64 rfl rfl fun b3 => gn hK1 <| gr fun K2 hK2 => g0 (fa uu64 rfl zz42 rfl rfl rfl (k' := 0)) rfl <| g1 2 rfl (aN aa42 zz42 rfl rfl rfl (v := (vQ x.p)) rfl) rfl <| g1 1 rfl (aN aa42 zz42 rfl rfl rfl (v := (vQ by_)) rfl) rfl <| gc (aS Tryz.call86 rfl) (kk c1) rfl <| g0 (fa uu64 rfl zz42 rfl rfl rfl (k' := 0)) rfl <| gs 2 (cR (⟨(bn x.p by_), x.r, x.neg⟩ : GR)) rfl zz42 rfl rfl rfl rfl rfl rfl rfl <| gn hK2 <| gr fun K3 hK3 => g1 2 rfl (aN aa64 zz64 rfl rfl rfl (v := (vR (⟨(bn x.p by_), x.r, x.neg⟩ : GR))) rfl) rfl <| gs 0 (cR (⟨(bn x.p by_), x.r, x.neg⟩ : GR)) rfl zz64 rfl rfl rfl rfl rfl rfl rfl <| gn hK3 <| gT ?_; clear h ac; intro ac wo h
 exact ret h rfl (.cell (v := (vR (⟨(bn x.p by_), x.r, x.neg⟩ : GR))) rfl (i := 0) rfl aa64 zz64 rfl rfl rfl .nil) rfl (h.retP (by unfold dP; rfl) (by unfold dP; exact ⟨(ex s1 (by omega)), (ex zx.2 (by omega))⟩))
attribute [irreducible] dP
def dG (a : List Iv) (b : List Iv) : (List Iv) :=
 (an a b)
theorem iQ (a : List Iv) (av : Value) (b : List Iv) (bv : Value) (hla : a.length ≤ 200) (hlb : b.length ≤ 200) (hwa : ∀ i ∈ a, Wv i) (hwb : ∀ i ∈ b, Wv i) (za : All (SzV 30) a) (zb : All (SzV 30) b) (w0 : World) (hav : View w0 av a) (hbv : View w0 bv b) : Calls Tryz.prog 57 #[av, bv] w0 (RetR w0 66 (dG a b) (All (SzV 30) (dG a b) ∧ (dG a b).length ≤ 2 * a.length + 2 * b.length)) := by
 refine enter (N := 8) (args := [av, bv]) Tryz.func57 rfl rfl ?_; intro ac h
 have hlena := hav.len
 have hlenb := hbv.len
 refine cz fun K1 hK1 => ?_
 refine rd0 h (aj rfl) rfl <| gn hK1 <| gr fun K2 hK2 => g0 (ak rfl) rfl <| g0 (ak rfl) rfl ?_; clear h ac; intro ac wo h
 have s1 := RetR.pr ((fun w_ hB_ hS_ => et a av b bv (by first | omega | grind) (by first | omega | grind) (by first | omega | grind) (by first | omega | grind) za zb w_ (hav.below hB_) (hbv.below hB_)) _ h.bel h.sep)
 have p2 := s1.2
 refine eU (xs := (an a b)) h (aS Tryz.call34 rfl) (fun w_ hB_ hS_ => et a av b bv (by first | omega | grind) (by first | omega | grind) (by first | omega | grind) (by first | omega | grind) za zb w_ (hav.below hB_) (hbv.below hB_)) rfl ?_; clear h ac wo; intro sv3 ac wo _ h
 refine rd0 h (aj rfl) rfl <| gn hK2 <| gT ?_; clear h ac wo; intro ac wo h
 exact ret h rfl (.tmp rfl .nil) rfl (by unfold dG; exact h.retR 0 rfl ⟨s1.1, (by first | omega | grind)⟩)
attribute [irreducible] dG
def bf (n : Int) : GQ :=
 (aq n)
theorem dZ (n : Int) (hn : -1000 ≤ n ∧ n ≤ 1000) (w0 : World)  : Calls Tryz.prog 43 #[(.int .i64 n)] w0 (RetP w0 (vQ (bf n)) (SzQ 40 (bf n))) := by
 refine enter (N := 5) (args := [(.int .i64 n)]) Tryz.func43 rfl rfl ?_; intro ac h
 have c1 := bA n 40 (by omega)  (by omega)
 have s1 := aG (c1 w0)
 refine cz fun K1 hK1 => ?_
 refine al h (cQ oQ) Tryz.zeroValue42 rfl rfl fun b1 => gn hK1 <| gr fun K2 hK2 => g0 (ak rfl) rfl <| gc (aS Tryz.call68 rfl) (kk c1) rfl <| gs 0 (cQ (aq n)) rfl zz42 rfl rfl rfl rfl rfl rfl rfl <| gn hK2 <| gT ?_; clear h ac; intro ac wo h
 exact ret h rfl (.cell (v := (vQ (aq n))) rfl (i := 0) rfl aa42 zz42 rfl rfl rfl .nil) rfl (h.retP (by unfold bf; rfl) (by unfold bf; exact s1))
attribute [irreducible] bf
def bJ (yes : Bool) (no : Bool) : Int :=
 bif yes then
  1
 else
  bif no then
   (-1)
  else
   0
theorem eV (yes : Bool) (no : Bool) (w0 : World)  : Calls Tryz.prog 52 #[(.bool yes), (.bool no)] w0 (RetP w0 (.int .i64 (bJ yes no)) (True)) := by
 refine enter (N := 9) (args := [(.bool yes), (.bool no)]) Tryz.func52 rfl rfl ?_; intro ac h
 refine cz fun K1 hK1 => ?_
 refine rd0 h (aj rfl) rfl <| gn hK1 <| gq fun K2 hK2 => gB <| gr fun K3 hK3 => g0 (ak rfl) rfl <| g0 (aj rfl) rfl <| gn hK3 ?_; clear h ac; intro ac wo h
 refine dm h rfl (fun hc1 => ?_) (fun hc1 => ?_)
 ·
  have hq1 := hc1; try simp at hq1
  refine gz h <| gr fun K4 hK4 => g0 (aj rfl) rfl <| gn hK4 <| gT ?_; clear h ac wo; intro ac wo h
  have hd : bJ yes no = 1 := (cT hc1)
  exact ret h rfl (.tmp rfl .nil) rfl (h.retP (by rw [hd] <;> rfl) trivial)
 ·
  have hq1 := hc1; try simp at hq1
  refine gz h <| gr fun K5 hK5 => g0 (ak rfl) rfl <| g0 (aj rfl) rfl <| gn hK5 ?_; clear h ac wo; intro ac wo h
  refine dm h rfl (fun hc2 => ?_) (fun hc2 => ?_)
  ·
   have hq2 := hc2; try simp at hq2
   refine gz h <| gr fun K6 hK6 => g0 (aj rfl) rfl <| gn hK6 <| gT ?_; clear h ac wo; intro ac wo h
   have hd : bJ yes no = (-1) := (Eq.trans (cF hc1) (cT hc2))
   exact ret h rfl (.tmp rfl .nil) rfl (h.retP (by rw [hd] <;> rfl) trivial)
  ·
   have hq2 := hc2; try simp at hq2
   refine gz h <| gS <| gN <| gx hK2 <| gr fun K7 hK7 => g0 (aj rfl) rfl <| gn hK7 <| gT ?_; clear h ac wo; intro ac wo h
   have hd : bJ yes no = 0 := (Eq.trans (cF hc1) (cF hc2))
   exact ret h rfl (.tmp rfl .nil) rfl (h.retP (by rw [hd] <;> rfl) trivial)
attribute [irreducible] bJ
def dT (a : GQ) (b : GQ) : (List Iv) :=
 bif (decide ((a7 (ar (⟨(aB a), (aB b), false, false⟩ : Iv)) (au (⟨(aB a), (aB b), false, false⟩ : Iv))) ≥ 0)) then
  []
 else
  [(⟨(aB a), (aB b), false, false⟩ : Iv)]
theorem gV (a : GQ) (b : GQ) (za : SzQ 40 a) (zb : SzQ 40 b) (w0 : World)  : Calls Tryz.prog 67 #[(vQ a), (vQ b)] w0 (RetR w0 66 (dT a b) (All (SzV 30) (dT a b) ∧ (dT a b).length ≤ 1)) := by
  refine enter (N := 19) (args := [(vQ a), (vQ b)]) Tryz.func67 rfl rfl ?_; intro ac h
  refine cz fun K1 hK1 => ?_
  refine bx h (cQ a) rfl rfl rfl fun b1 => gb (cQ b) rfl rfl rfl fun b2 => g0 (aj rfl) rfl <| gn hK1 <| gq fun K2 hK2 => ?_; clear h ac; intro ac wo h
  have c1 := fQ a 40 (by omega) za
  have s1 := aG (c1 w0)
  have s2 := aG ((fQ b 40 (by omega) zb) w0)
  replace h := h.emps 1
  refine cO mixed [⟨.det (vQ a), [1]⟩, ⟨.det (vR (aB a)), []⟩, ⟨.det (vQ b), [0]⟩, ⟨.det (vR (aB b)), []⟩, ⟨.det (vV (⟨(aB a), (aB b), false, false⟩ : Iv)), []⟩, ⟨.nd (.one 5 fun v => ∃ b, v = ptr b 0), [2]⟩, ⟨.det undef, [2]⟩] [⟨.blk b2 (cQ b) 42, []⟩, ⟨.blk b1 (cQ a) 42, []⟩, ⟨.emp, [(5, .one 5 fun v => .blk (a8 v) (cV (⟨(⟨oQ, oQ, false⟩ : GR), (⟨oQ, oQ, false⟩ : GR), false, false⟩ : Iv)) 66), (6, .one 5 fun v => .blk (a8 v) (cV (⟨(aB a), (aB b), false, false⟩ : Iv)) 66)]⟩] h rfl (by kernel_rfl) ⟨?_, ?_, ?_, ?_, ?_, ?_, ?_, trivial⟩ ?_
  · intro ξ hφ; exact be [.blk b1 (cQ a) 42] rfl rfl (aN aa42 zz42 rfl rfl rfl (v := (vQ a)) rfl)
  · intro ξ hφ; exact dN (cP (aS Tryz.call88 rfl) (kk c1))
  · intro ξ hφ; exact be [.blk b2 (cQ b) 42] rfl rfl (aN aa42 zz42 rfl rfl rfl (v := (vQ b)) rfl)
  · intro ξ hφ; exact dN (cP (aS Tryz.call88 rfl) (kk (fQ b 40 (by omega) zb)))
  · intro ξ hφ; exact az (bP bld66 rfl rfl (v := (vV (⟨(aB a), (aB b), false, false⟩ : Iv))) rfl)
  · intro ξ hφ; exact dJ (ψ := fun v => ∃ b, v = ptr b 0) (B := fun v => [.blk (a8 v) (cV (⟨(⟨oQ, oQ, false⟩ : GR), (⟨oQ, oQ, false⟩ : GR), false, false⟩ : Iv)) 66]) [.emp] rfl (fun v _ => by simp only [bC, aw] <;> rfl) (fun v hv => by simpa [DF.one, aw] using hv) (fc (dq vv66 rfl))
  · intro ξ hφ; obtain ⟨b3, hb5⟩ := hφ 5 rfl; exact dD [.blk b3 (cV (⟨(⟨oQ, oQ, false⟩ : GR), (⟨oQ, oQ, false⟩ : GR), false, false⟩ : Iv)) 66] [.blk b3 (cV (⟨(aB a), (aB b), false, false⟩ : Iv)) 66] (congrArg (fun v => [Asn.blk (a8 v) (cV (⟨(⟨oQ, oQ, false⟩ : GR), (⟨oQ, oQ, false⟩ : GR), false, false⟩ : Iv)) 66]) hb5) (congrArg (fun v => [Asn.blk (a8 v) (cV (⟨(aB a), (aB b), false, false⟩ : Iv)) 66]) hb5) (d8 zz66 (Eq.trans rfl (congrArg some hb5)) rfl rfl rfl rfl rfl rfl)
  clear h ac wo; intro ξ ac wo hφ h
  replace h : St w0 19 [(5, ξ 5)] [.blk b2 (cQ b) 42, .blk b1 (cQ a) 42, .blk (a8 (ξ 5)) (cV (⟨(aB a), (aB b), false, false⟩ : Iv)) 66] ac wo := (h.pick [0, 1, 2] (by decide)).sub ⟨rfl, trivial⟩
  revert h
  obtain ⟨b3, hb5⟩ : ∃ b, ξ 5 = ptr b 0 := hφ 5
  rw [hb5]; intro h
  clear hb5
  clear hφ ξ
  refine hK2 _ _ ?_
  refine da fun K3 hK3 => ?_
  refine da fun K4 hK4 => ?_
  have s3 := Calls.pr ((fun w_ hB_ hS_ => bT (⟨(aB a), (aB b), false, false⟩ : Iv) ⟨(cB s1 (by omega)), (cB s2 (by omega))⟩ w_ ) _ h.bel h.sep)
  have s4 := Calls.pr ((fun w_ hB_ hS_ => ch (⟨(aB a), (aB b), false, false⟩ : Iv) ⟨(cB s1 (by omega)), (cB s2 (by omega))⟩ w_ ) _ h.bel h.sep)
  have s5 := Calls.pr ((fun w_ hB_ hS_ => cG (ar (⟨(aB a), (aB b), false, false⟩ : Iv)) (au (⟨(aB a), (aB b), false, false⟩ : Iv)) s3 s4 w_ ) _ h.bel h.sep)
  have p6 := s5
  refine cO mixed [⟨.det (vV (⟨(aB a), (aB b), false, false⟩ : Iv)), [2]⟩, ⟨.det (vW (ar (⟨(aB a), (aB b), false, false⟩ : Iv))), []⟩, ⟨.det (vV (⟨(aB a), (aB b), false, false⟩ : Iv)), [2]⟩, ⟨.det (vW (au (⟨(aB a), (aB b), false, false⟩ : Iv))), []⟩, ⟨.det (.int .i64 (a7 (ar (⟨(aB a), (aB b), false, false⟩ : Iv)) (au (⟨(aB a), (aB b), false, false⟩ : Iv)))), []⟩, ⟨.det (.bool (decide ((a7 (ar (⟨(aB a), (aB b), false, false⟩ : Iv)) (au (⟨(aB a), (aB b), false, false⟩ : Iv))) ≥ 0))), []⟩] [⟨.blk b2 (cQ b) 42, []⟩, ⟨.blk b1 (cQ a) 42, []⟩, ⟨.blk b3 (cV (⟨(aB a), (aB b), false, false⟩ : Iv)) 66, []⟩] h rfl (by kernel_rfl) ⟨?_, ?_, ?_, ?_, ?_, ?_, trivial⟩ ?_
  · intro ξ hφ; exact be [.blk b3 (cV (⟨(aB a), (aB b), false, false⟩ : Iv)) 66] rfl rfl (aN aa66 zz66 rfl rfl rfl (v := (vV (⟨(aB a), (aB b), false, false⟩ : Iv))) rfl)
  · intro ξ hφ; exact dN (cP (vs := [(vV (⟨(aB a), (aB b), false, false⟩ : Iv))]) (aS Tryz.call64 rfl) (fun w_ hB_ hS_ => bT (⟨(aB a), (aB b), false, false⟩ : Iv) ⟨(cB s1 (by omega)), (cB s2 (by omega))⟩ w_ ))
  · intro ξ hφ; exact be [.blk b3 (cV (⟨(aB a), (aB b), false, false⟩ : Iv)) 66] rfl rfl (aN aa66 zz66 rfl rfl rfl (v := (vV (⟨(aB a), (aB b), false, false⟩ : Iv))) rfl)
  · intro ξ hφ; exact dN (cP (aS Tryz.call63 rfl) (kk (ch (⟨(aB a), (aB b), false, false⟩ : Iv) ⟨(cB s1 (by omega)), (cB s2 (by omega))⟩)))
  · intro ξ hφ; exact dN (cP (aS Tryz.call62 rfl) (kk (cG (ar (⟨(aB a), (aB b), false, false⟩ : Iv)) (au (⟨(aB a), (aB b), false, false⟩ : Iv)) s3 s4)))
  · intro ξ hφ; exact az (nc rfl rfl)
  clear h ac wo; intro ξ ac wo hφ h
  replace h : St w0 19 [(5, (ptr b3 0)), (16, (.bool (decide ((a7 (ar (⟨(aB a), (aB b), false, false⟩ : Iv)) (au (⟨(aB a), (aB b), false, false⟩ : Iv))) ≥ 0))))] [.blk b2 (cQ b) 42, .blk b1 (cQ a) 42, .blk b3 (cV (⟨(aB a), (aB b), false, false⟩ : Iv)) 66] ac wo := (h.pick [0, 1, 2] (by decide)).sub ⟨rfl, rfl, trivial⟩
  clear hφ ξ
  refine hK4 _ _ ?_
  refine dm h rfl (fun hc1 => ?_) (fun hc1 => ?_)
  · skip
    have hd1 := of_decide_eq_true hc1
    refine gz h <| gr fun K5 hK5 => g0 (aj rfl) rfl <| gn hK5 <| gT ?_; clear h ac wo; intro ac wo h
    replace h := h.nilRow (α := Iv) 66
    have hd : dT a b = [] := (cT hc1)
    exact ret h rfl (.tmp rfl .nil) rfl (by rw [hd]; exact h.retR 0 rfl ⟨All.nil, (by first | omega | grind)⟩)
  · skip
    have hd1 := of_decide_eq_false hc1
    refine gz h <| gS <| gx hK3 <| gr fun K6 hK6 => g1 2 rfl (aN aa66 zz66 rfl rfl rfl (v := (vV (⟨(aB a), (aB b), false, false⟩ : Iv))) rfl) rfl ?_; clear h ac wo; intro ac wo h
    refine nw h (dp (α := Iv) (xs := [.tmp 17]) (vs := [(vV (⟨(aB a), (aB b), false, false⟩ : Iv))]) [(⟨(aB a), (aB b), false, false⟩ : Iv)] jr rfl rfl rfl (by decide)) rfl ?_; clear h ac wo; intro sv8 ac wo nnsv8 h
    refine rd0 h (aj rfl) rfl <| gn hK6 <| gT ?_; clear h ac wo; intro ac wo h
    have hd : dT a b = [(⟨(aB a), (aB b), false, false⟩ : Iv)] := (cF hc1)
    exact ret h rfl (.tmp rfl .nil) rfl (by rw [hd]; exact h.retR 0 rfl ⟨(All.cons ⟨(cB s1 (by omega)), (cB s2 (by omega))⟩ All.nil), (by first | omega | grind)⟩)
attribute [irreducible] dT
def ap (a : Int) (b : Int) : (List Iv) :=
 (dT (bf a) (bf b))
theorem ib (a : Int) (b : Int) (hna : -1000 ≤ a ∧ a ≤ 1000) (hnb : -1000 ≤ b ∧ b ≤ 1000) (w0 : World)  : Calls Tryz.prog 42 #[(.int .i64 a), (.int .i64 b)] w0 (RetR w0 66 (ap a b) (All (SzV 30) (ap a b) ∧ (ap a b).length ≤ 1)) := by
 refine enter (N := 10) (args := [(.int .i64 a), (.int .i64 b)]) Tryz.func42 rfl rfl ?_; intro ac h
 have c1 := dZ a (by first | omega | grind)
 have s1 := Calls.pr (c1 w0)
 have c2 := dZ b (by first | omega | grind)
 have s2 := Calls.pr (c2 w0)
 refine cz fun K1 hK1 => ?_
 refine rd0 h (aj rfl) rfl <| gn hK1 <| gr fun K2 hK2 => g0 (ak rfl) rfl <| gc (aS Tryz.call43 rfl) (kk c1) rfl <| g0 (ak rfl) rfl <| gc (aS Tryz.call43 rfl) (kk c2) rfl ?_; clear h ac; intro ac wo h
 have s3 := RetR.pr ((fun w_ hB_ hS_ => gV (bf a) (bf b) s1 s2 w_ ) _ h.bel h.sep)
 have p4 := s3.2
 refine eU (xs := (dT (bf a) (bf b))) h (aS Tryz.call67 rfl) (kk (gV (bf a) (bf b) s1 s2)) rfl ?_; clear h ac wo; intro sv5 ac wo _ h
 refine rd0 h (aj rfl) rfl <| gn hK2 <| gT ?_; clear h ac wo; intro ac wo h
 exact ret h rfl (.tmp rfl .nil) rfl (by unfold ap; exact h.retR 0 rfl ⟨s3.1, (by first | omega | grind)⟩)
attribute [irreducible] ap
end Go.Sx
namespace Go.Sx
open Go Go.RowKit Go.Proofs
set_option maxRecDepth 100000
set_option maxHeartbeats 40000000
attribute [local irreducible] bm bV aq aJ aF dY
def jS (p : List Iv) (length : GQ) (out : List Iv) (x10 : Nat) : (List Iv) :=
 out
def dQ (p : List Iv) (length : GQ) (out : List Iv) (x10 : Nat) : Nx ((List Iv) × Nat) (List Iv) :=
 bif (decide (((x10 : Nat) : Int) < ((p.length : Nat) : Int))) then
  bif (decide ((bm (dP ((gt p x10).lo) length) ((gt p x10).hi)) ≤ 0)) then
   .go ((out ++ [(gt p x10)]), (x10 + 1))
  else
   .go (out, (x10 + 1))
 else
  .out (out, x10)
def dS (p : List Iv) (length : GQ) : (List Iv) :=
 fin (bU (fun s => dQ p length s.1 s.2) ((p.length - 0) + 1) ([], 0)) (fun s => jS p length s.1 s.2) (fun r => r)
theorem jR (p : List Iv) (pv : Value) (length : GQ) (hl : p.length ≤ 200) (zp : All (SzV 30) p) (zlength : SzQ 30 length) (w0 : World) (hpv : View w0 pv p) : Calls Tryz.prog 56 #[pv, (vQ length)] w0 (RetR w0 66 (dS p length) (All (SzV 30) (dS p length) ∧ (dS p length).length ≤ p.length)) := by
  refine enter (N := 28) (args := [pv, (vQ length)]) Tryz.func56 rfl rfl ?_; intro ac h
  have hlenp := hpv.len
  refine cz fun K1 hK1 => ?_
  refine bx h (cQ length) rfl rfl rfl fun b1 => g0 (aj rfl) rfl <| gn hK1 <| gr fun K2 hK2 => g0 (aj rfl) rfl <| gn hK2 <| gq fun K3 hK3 => gr fun K4 hK4 => g0 (ak rfl) rfl <| g0 (dg uu26 rfl hpv.sl) rfl <| g0 (ak rfl) rfl <| gn hK4 <| gB ?_; clear h ac; intro ac wo h
  replace h := h.nilRow (α := Iv) 66
  obtain ⟨X1, hX1⟩ : ∃ X, bU (fun s => dQ p length s.1 s.2) ((p.length - 0) + 1) ([], 0) = X := ⟨_, rfl⟩
  refine wp_loop_ghost (fun n_ a_ w_ => ∃ (out : List Iv) (x10 : Nat) (outv : Value), ((p.length - x10) < n_) ∧ (bU (fun s => dQ p length s.1 s.2) n_ (out, x10) = X1) ∧ (x10 ≤ p.length) ∧ (All (SzV 30) out) ∧ (out.length ≤ x10) ∧ St w0 28 [(3, (ptr b1 0)), (5, outv), (8, pv), (9, (.int .i64 ((p.length : Nat) : Int))), (10, (.int .i64 ((x10 : Nat) : Int)))] [.row (α := Iv) 66 outv out, .blk b1 (cQ length) 42] a_ w_) ((p.length - 0) + 1) ⟨[], 0, (.slice none 0 0), (by omega), hX1, (by first | omega | grind), All.nil, (by first | omega | grind), (h.sub ⟨rfl, rfl, rfl, rfl, rfl, trivial⟩)⟩ ?_
  clear h ac wo; rintro n1 ac wo ⟨out, x10, outv, hm1, hL1, hx10, zout, hol, h⟩
  obtain ⟨m1, rfl⟩ : ∃ m, n1 = m + 1 := ⟨n1 - 1, by omega⟩
  refine gz h <| gr fun K5 hK5 => g0 (dr rfl rfl) rfl <| gn hK5 <| gq fun K6 hK6 => ?_; clear h ac wo; intro ac wo h
  refine dm h rfl (fun hc1 => ?_) (fun hc1 => ?_)
  · skip
    have hd1 := of_decide_eq_true hc1
    refine gz h <| gS <| gx hK6 <| gq fun K7 hK7 => gB <| gr fun K8 hK8 => g0 (d6 (i := x10) uu26 zz66 rfl rfl (hpv.nn (i := x10) (by first | omega | grind)) (by first | omega | grind)) rfl <| g0 (i9 (k := 0) aa66 zz66 hpv (em (by first | omega | grind)) rfl (Nat.add_zero _) rfl rfl (v := (vV (gt p x10))) rfl) rfl <| ga (cV (⟨(⟨oQ, oQ, false⟩ : GR), (⟨oQ, oQ, false⟩ : GR), false, false⟩ : Iv)) vv66 rfl rfl fun b2 => gs 0 (cV (gt p x10)) rfl zz66 rfl rfl rfl rfl rfl rfl rfl <| gn hK8 <| gq fun K9 hK9 => ?_; clear h ac wo; intro ac wo h
    have c2 := kW ((gt p x10).lo) length (All.gt zp (eW _)).1 zlength
    have s2 := Calls.pr (c2 w0)
    have p4 := aG ((eR (dP ((gt p x10).lo) length) ((gt p x10).hi) 4 (by omega) s2 (cB (All.gt zp (eW _)).2 (by omega))) w0)
    refine cO mixed [⟨.det (ptr b2 0), []⟩, ⟨.det (vR ((gt p x10).lo)), [0]⟩, ⟨.det (vQ length), [2]⟩, ⟨.det (vR (dP ((gt p x10).lo) length)), []⟩, ⟨.det (ptr b2 9), []⟩, ⟨.det (vR ((gt p x10).hi)), [0]⟩, ⟨.det (.int .i64 (bm (dP ((gt p x10).lo) length) ((gt p x10).hi))), []⟩, ⟨.det (.bool (decide ((bm (dP ((gt p x10).lo) length) ((gt p x10).hi)) ≤ 0))), []⟩] [⟨.blk b2 (cV (gt p x10)) 66, []⟩, ⟨.row (α := Iv) 66 outv out, []⟩, ⟨.blk b1 (cQ length) 42, []⟩] h rfl (by kernel_rfl) ⟨?_, ?_, ?_, ?_, ?_, ?_, ?_, ?_, trivial⟩ ?_
    · intro ξ hφ; exact az (fa uu66 rfl zz64 rfl rfl rfl (k' := 0))
    · intro ξ hφ; exact be [.blk b2 (cV (gt p x10)) 66] rfl rfl (aN aa64 zz64 rfl rfl rfl (v := (vR ((gt p x10).lo))) rfl)
    · intro ξ hφ; exact be [.blk b1 (cQ length) 42] rfl rfl (aN aa42 zz42 rfl rfl rfl (v := (vQ length)) rfl)
    · intro ξ hφ; exact dN (cP (aS Tryz.call80 rfl) (kk c2))
    · intro ξ hφ; exact az (fa uu66 rfl zz64 rfl rfl rfl (k' := 9))
    · intro ξ hφ; exact be [.blk b2 (cV (gt p x10)) 66] rfl rfl (aN aa64 zz64 rfl rfl rfl (v := (vR ((gt p x10).hi))) rfl)
    · intro ξ hφ; exact dN (cP (aS Tryz.call65 rfl) (kk (eR (dP ((gt p x10).lo) length) ((gt p x10).hi) 4 (by omega) s2 (cB (All.gt zp (eW _)).2 (by omega)))))
    · intro ξ hφ; exact az (r_leq rfl rfl)
    clear h ac wo; intro ξ ac wo hφ h
    replace h : St w0 28 [(3, (ptr b1 0)), (5, outv), (8, pv), (9, (.int .i64 ((p.length : Nat) : Int))), (10, (.int .i64 ((x10 : Nat) : Int))), (7, (ptr b2 0)), (21, (.bool (decide ((bm (dP ((gt p x10).lo) length) ((gt p x10).hi)) ≤ 0))))] [.blk b2 (cV (gt p x10)) 66, .row (α := Iv) 66 outv out, .blk b1 (cQ length) 42] ac wo := (h.pick [0, 1, 2] (by decide)).sub ⟨rfl, rfl, rfl, rfl, rfl, rfl, rfl, trivial⟩
    clear hφ ξ
    refine hK9 _ _ ?_
    refine dm h rfl (fun hc2 => ?_) (fun hc2 => ?_)
    · skip
      have hd2 := of_decide_eq_true hc2
      refine gz h <| gR <| g0 (ak rfl) rfl <| g1 0 rfl (aN aa66 zz66 rfl rfl rfl (v := (vV (gt p x10))) rfl) rfl ?_; clear h ac wo; intro ac wo h
      refine nw h (dp (α := Iv) (xs := [.tmp 23]) (vs := [(vV (gt p x10))]) [(gt p x10)] jr rfl rfl rfl (by decide)) rfl ?_; clear h ac wo; intro sv5 ac wo nnsv5 h
      refine on2 h 2 0 rfl rfl (eP (xs := out) (ys := [(gt p x10)]) jr (fun w hs => (row_view hs 0 rfl)) rfl rfl (by first | omega | grind)) rfl ?_; clear h ac wo; intro sv6 ac wo apsv6 h
      refine rd0 h (aj rfl) rfl <| gx (fun _ _ => aW) <| gN <| gx hK7 <| gR <| g0 (bF rfl rfl (r := ((x10 + 1 : Nat) : Int)) (by rw [IntKind.wrap_i64]; first | omega | grind)) rfl <| g0 (ak rfl) rfl <| gx (fun _ _ => aW) ?_; clear h ac wo; intro ac wo h
      exact aO ⟨m1, (by omega), _, _, _, (by first | omega | grind), cA hL1 (show dQ p length out x10 = .go _ from (Eq.trans (cT hc1) (cT hc2))), (by first | omega | grind), (All.app zout (All.cons (All.gt zp (eW _)) All.nil)), (by first | omega | grind), (h.pick [0, 3] (by decide)).sub ⟨rfl, rfl, rfl, rfl, rfl, trivial⟩⟩
    · skip
      have hd2 := of_decide_eq_false hc2
      refine gz h <| gS <| gN <| gx hK7 <| gR <| g0 (bF rfl rfl (r := ((x10 + 1 : Nat) : Int)) (by rw [IntKind.wrap_i64]; first | omega | grind)) rfl <| g0 (ak rfl) rfl <| gx (fun _ _ => aW) ?_; clear h ac wo; intro ac wo h
      exact aO ⟨m1, (by omega), _, _, _, (by first | omega | grind), cA hL1 (show dQ p length out x10 = .go _ from (Eq.trans (cT hc1) (cF hc2))), (by first | omega | grind), zout, (by first | omega | grind), (h.pick [1, 2] (by decide)).sub ⟨rfl, rfl, rfl, rfl, rfl, trivial⟩⟩
  · skip
    have hd1 := of_decide_eq_false hc1
    refine dL ?_
    have hx1 := ec hL1 (show dQ p length out x10 = .out (out, x10) from (cF hc1))
    refine gz h <| gx hK3 <| gr fun K10 hK10 => g0 (ak rfl) rfl <| g0 (aj rfl) rfl <| gn hK10 <| gT ?_; clear h ac wo; intro ac wo h
    have hd : dS p length = out := (fp (hX1.trans hx1))
    exact ret h rfl (.tmp rfl .nil) rfl (by rw [hd]; exact h.retR 0 rfl ⟨zout, (by first | omega | grind)⟩)
attribute [irreducible] dS
def eA (l : List Stp) (in_ : List Iv) (i : Nat) : (List Iv) :=
 (cX in_)
def bQ (l : List Stp) (in_ : List Iv) (i : Nat) : Nx ((List Iv) × Nat) (List Iv) :=
 bif (decide (((i : Nat) : Int) < (((aI l).length : Nat) : Int))) then
  .go ((in_ ++ [(gt (aI l) i).iv]), (i + 1))
 else
  .out (in_, i)
def aa (l : List Stp) : (List Iv) :=
 fin (bU (fun s => bQ l s.1 s.2) (((aI l).length - 0) + 1) ([], 0)) (fun s => eA l s.1 s.2) (fun r => r)
theorem iF (l : List Stp) (lv : Value) (w0 : World) (hlv : View w0 lv l) : Calls Tryz.prog 10 #[lv] w0 (RetR w0 66 (aa l) (All (SzV 30) (aa l) ∧ (aa l).length ≤ 32)) := by
 refine enter (N := 24) (args := [lv]) Tryz.func10 rfl rfl ?_; intro ac h
 have hlenl := hlv.len
 refine cz fun K1 hK1 => ?_
 refine rd0 h (aj rfl) rfl <| gn hK1 <| gr fun K2 hK2 => g0 (ak rfl) rfl ?_; clear h ac; intro ac wo h
 have s1 := RetR.pr ((fun w_ hB_ hS_ => fE l lv w_ (hlv.below hB_)) _ h.bel h.sep)
 have p2 := s1.2
 refine eU (xs := (aI l)) h (aS Tryz.call44 rfl) (fun w_ hB_ hS_ => fE l lv w_ (hlv.below hB_)) rfl ?_; clear h ac wo; intro sv3 ac wo _ h
 refine rd0 h (aj rfl) rfl <| gn hK2 <| gr fun K3 hK3 => g0 (aj rfl) rfl <| gn hK3 <| gq fun K4 hK4 => gr fun K5 hK5 => g0 (aj rfl) rfl <| gn hK5 <| gB ?_; clear h ac wo; intro ac wo h
 replace h := h.nilRow (α := Iv) 66
 obtain ⟨X1, hX1⟩ : ∃ X, bU (fun s => bQ l s.1 s.2) (((aI l).length - 0) + 1) ([], 0) = X := ⟨_, rfl⟩
 refine wp_loop_ghost (fun n_ a_ w_ => ∃ (in_ : List Iv) (i : Nat) (in_v : Value), (((aI l).length - i) < n_) ∧ (bU (fun s => bQ l s.1 s.2) n_ (in_, i) = X1) ∧ (i ≤ (aI l).length) ∧ (All (SzV 30) in_) ∧ (in_ = ((aI l).take i).map (fun u => u.iv)) ∧ St w0 24 [(3, sv3), (4, in_v), (5, (.int .i64 ((i : Nat) : Int)))] [.row (α := Iv) 66 in_v in_, .row (α := U Qd) 77 sv3 (aI l)] a_ w_) (((aI l).length - 0) + 1) ⟨[], 0, (.slice none 0 0), (by omega), hX1, (by first | omega | grind), All.nil, rfl, (h.sub ⟨rfl, rfl, rfl, trivial⟩)⟩ ?_
 clear h ac wo; rintro n1 ac wo ⟨in_, i, in_v, hm1, hL1, hi, zin_, hin, h⟩
 obtain ⟨m1, rfl⟩ : ∃ m, n1 = m + 1 := ⟨n1 - 1, by omega⟩
 have hbl_ := o1 l
 have hil_ : in_.length = min i (aI l).length := by rw [hin, List.length_map, List.length_take]
 refine gz h <| gq fun K6 hK6 => gr fun K7 hK7 => g0 (ak rfl) rfl <| g0 (ak rfl) rfl ?_; clear h ac wo; intro ac wo h
 refine rd0 h (dg uu72 rfl (h.row_sl 1 rfl)) rfl <| g0 (dr rfl rfl) rfl <| gn hK7 ?_; clear h ac wo; intro ac wo h
 refine dm h rfl (fun hc1 => ?_) (fun hc1 => ?_)
 ·
  have hd1 := of_decide_eq_true hc1
  refine gz h <| gS <| gx hK6 <| gq fun K8 hK8 => gB <| gR <| g0 (ak rfl) rfl <| g0 (ak rfl) rfl <| g0 (ak rfl) rfl ?_; clear h ac wo; intro ac wo h
  refine rd0 h (d6 (i := i) uu72 Tryz.sizeOf77 rfl rfl (h.row_nn 1 rfl (by first | omega | grind)) (by first | omega | grind)) rfl ?_; clear h ac wo; intro ac wo h
  refine rd0 h (fs Tryz.runUnderlying77 rfl zz66 rfl (h.row_nn 1 rfl (by first | omega | grind)) rfl rfl (k' := i * 32 + 0)) rfl <| g1 1 rfl (d9 (k := 0) aa66 zz66 (em (by first | omega | grind)) rfl rfl rfl rfl (v := (vV ((gt (aI l) i).iv))) rfl) rfl ?_; clear h ac wo; intro ac wo h
  refine nw h (dp (α := Iv) (xs := [.tmp 19]) (vs := [(vV ((gt (aI l) i).iv))]) [(gt (aI l) i).iv] jr rfl rfl rfl (by decide)) rfl ?_; clear h ac wo; intro sv5 ac wo nnsv5 h
  refine on2 h 1 0 rfl rfl (eP (xs := in_) (ys := [(gt (aI l) i).iv]) jr (fun w hs => (row_view hs 0 rfl)) rfl rfl (by first | omega | grind)) rfl ?_; clear h ac wo; intro sv6 ac wo apsv6 h
  refine rd0 h (aj rfl) rfl <| gx (fun _ _ => aW) <| gN <| gx hK8 <| gR <| g0 (ak rfl) rfl <| g0 (bF rfl rfl (r := ((i + 1 : Nat) : Int)) (by rw [IntKind.wrap_i64]; first | omega | grind)) rfl <| g0 (aj rfl) rfl <| gx (fun _ _ => aW) ?_; clear h ac wo; intro ac wo h
  exact aO ⟨m1, (by omega), _, _, _, (by first | omega | grind), cA hL1 (show bQ l in_ i = .go _ from (cT hc1)), (by first | omega | grind), (All.app zin_ (All.cons (All.gt s1.1 (SzUD_d _)).1 All.nil)), (by rw [hin, ie (by omega), List.map_append]; rfl), (h.pick [0, 2] (by decide)).sub ⟨rfl, rfl, rfl, trivial⟩⟩
 ·
  have hd1 := of_decide_eq_false hc1
  refine dL ?_
  have hx1 := ec hL1 (show bQ l in_ i = .out (in_, i) from (cF hc1))
  refine hK4 _ _ ?_
  refine cz fun K9 hK9 => ?_
  have hin2 : in_ = (aI l).map (fun u => u.iv) := by rw [hin, List.take_of_length_le (by omega)]
  have hbl := o1 l
  have hinl : in_.length ≤ 16 := by rw [hin2, List.length_map]; exact hbl
  have hinw : ∀ i ∈ in_, Wv i := by rw [hin2]; exact bld_wv l
  refine rd0 h (ak rfl) rfl ?_; clear h ac wo; intro ac wo h
  have s7 := RetR.pr ((fun w_ hB_ hS_ => gU in_ in_v (by first | omega | grind) hinw zin_ w_ (row_view hS_ 0 rfl)) _ h.bel h.sep)
  have p8 := s7.2
  refine eU (xs := (cX in_)) h (aS Tryz.call45 rfl) (fun w_ hB_ hS_ => gU in_ in_v (by first | omega | grind) hinw zin_ w_ (row_view hS_ 0 rfl)) rfl ?_; clear h ac wo; intro sv9 ac wo _ h
  refine rd0 h (aj rfl) rfl <| gn hK9 <| gT ?_; clear h ac wo; intro ac wo h
  have hd : aa l = (cX in_) := (fp (hX1.trans hx1))
  exact ret h rfl (.tmp rfl .nil) rfl (by rw [hd]; exact h.retR 0 rfl ⟨s7.1, (by first | omega | grind)⟩)
attribute [irreducible] aa
end Go.Sx
