/- A part of the proof that the law BracketQuestions/Checks answers true at every input and leaves its arguments as they were. -/
import Derived.Test.YtbnldpccdppmiaaGreatDoorA7
import Derived.Test.YtbnldpccdppmiaaGreatDoorHb
import Derived.Test.YtbnldpccdppmiaaGreatDoorEx
set_option linter.unusedVariables false
set_option linter.unusedSimpArgs false
open Go.Proofs.Tryz renaming zeroValue92 → vv92, runUnderlying66 → uu66, sizeOf64 → zz64, isAgg64 → aa64, sizeOf4 → zz4, isAgg4 → aa4, sizeOf92 → zz92, isAgg92 → aa92, runUnderlying92 → uu92, runUnderlying107 → uu107, runUnderlying103 → uu103, sizeOf107 → zz107, isAgg107 → aa107
namespace Go.Sx
open Go Go.RowKit Go.Proofs
set_option maxRecDepth 100000
set_option maxHeartbeats 40000000
attribute [local irreducible] aY bS an aI aM d7
def am (i : Iv) : Bd :=
 (⟨i.lo, i.openLo⟩ : Bd)
theorem bQ (i : Iv) (zi : SzV 30 i) (w0 : World)  : Calls Tryz.prog 64 #[(vV i)] w0 (RetP w0 (vW (am i)) (SzW 30 (am i))) := by
 refine enter (N := 8) (args := [(vV i)]) Tryz.func64 rfl rfl ?_; intro ac h
 refine bB fun K1 hK1 => ?_
 refine bx h (cV i) rfl rfl rfl fun b1 => ga (cW (⟨(⟨oQ, oQ, false⟩ : GR), false⟩ : Bd)) vv92 rfl rfl fun b2 => gn hK1 <| gr fun K2 hK2 => g0 (fa uu66 rfl zz64 rfl rfl rfl (k' := 0)) rfl <| g1 1 rfl (aZ aa64 zz64 rfl rfl rfl (v := (vR i.lo)) rfl) rfl <| g0 (fa uu66 rfl zz4 rfl rfl rfl (k' := 18)) rfl <| g1 1 rfl (aZ aa4 zz4 rfl rfl rfl (v := (.bool i.openLo)) rfl) rfl <| g0 (bW bld92 rfl rfl (v := (vW (⟨i.lo, i.openLo⟩ : Bd))) rfl) rfl <| gs 0 (cW (⟨i.lo, i.openLo⟩ : Bd)) rfl zz92 rfl rfl rfl rfl rfl rfl rfl <| gn hK2 <| gT ?_; clear h ac; intro ac wo h
 exact ret h rfl (.cell (v := (vW (⟨i.lo, i.openLo⟩ : Bd))) rfl (i := 0) rfl aa92 zz92 rfl rfl rfl .nil) rfl (h.retP (by unfold am; rfl) (by unfold am; exact zi.1))
attribute [irreducible] am
def ao (i : Iv) : Bd :=
 (⟨i.hi, (!i.openHi)⟩ : Bd)
theorem bV (i : Iv) (zi : SzV 30 i) (w0 : World)  : Calls Tryz.prog 63 #[(vV i)] w0 (RetP w0 (vW (ao i)) (SzW 30 (ao i))) := by
 refine enter (N := 9) (args := [(vV i)]) Tryz.func63 rfl rfl ?_; intro ac h
 refine bB fun K1 hK1 => ?_
 refine bx h (cV i) rfl rfl rfl fun b1 => ga (cW (⟨(⟨oQ, oQ, false⟩ : GR), false⟩ : Bd)) vv92 rfl rfl fun b2 => gn hK1 <| gr fun K2 hK2 => g0 (fa uu66 rfl zz64 rfl rfl rfl (k' := 9)) rfl <| g1 1 rfl (aZ aa64 zz64 rfl rfl rfl (v := (vR i.hi)) rfl) rfl <| g0 (fa uu66 rfl zz4 rfl rfl rfl (k' := 19)) rfl <| g1 1 rfl (aZ aa4 zz4 rfl rfl rfl (v := (.bool i.openHi)) rfl) rfl <| g0 (eU rfl) rfl <| g0 (bW bld92 rfl rfl (v := (vW (⟨i.hi, (!i.openHi)⟩ : Bd))) rfl) rfl <| gs 0 (cW (⟨i.hi, (!i.openHi)⟩ : Bd)) rfl zz92 rfl rfl rfl rfl rfl rfl rfl <| gn hK2 <| gT ?_; clear h ac; intro ac wo h
 exact ret h rfl (.cell (v := (vW (⟨i.hi, (!i.openHi)⟩ : Bd))) rfl (i := 0) rfl aa92 zz92 rfl rfl rfl .nil) rfl (h.retP (by unfold ao; rfl) (by unfold ao; exact zi.2))
attribute [irreducible] ao
def aQ (a : Bd) (b : Bd) : Int :=
 bif ((aY a.at_ b.at_) != 0) then
  (aY a.at_ b.at_)
 else
  bif (a.behind == b.behind) then
   0
  else
   bif b.behind then
    (-1)
   else
    1
theorem ch (a : Bd) (b : Bd) (za : SzW 30 a) (zb : SzW 30 b) (w0 : World)  : Calls Tryz.prog 62 #[(vW a), (vW b)] w0 (RetP w0 (.int .i64 (aQ a b)) ((-1 ≤ (aQ a b) ∧ (aQ a b) ≤ 1))) := by
 refine enter (N := 23) (args := [(vW a), (vW b)]) Tryz.func62 rfl rfl ?_; intro ac h
 have p2 := aJ ((eu a.at_ b.at_ 10 (by omega) za zb) w0)
 refine bB fun K1 hK1 => ?_
 refine bx h (cW a) rfl rfl rfl fun b1 => gb (cW b) rfl rfl rfl fun b2 => g0 (ah rfl) rfl <| gn hK1 <| gq fun K2 hK2 => gr fun K3 hK3 => g0 (fa uu92 rfl zz64 rfl rfl rfl (k' := 0)) rfl <| g1 1 rfl (aZ aa64 zz64 rfl rfl rfl (v := (vR a.at_)) rfl) rfl <| g0 (fa uu92 rfl zz64 rfl rfl rfl (k' := 0)) rfl <| g1 0 rfl (aZ aa64 zz64 rfl rfl rfl (v := (vR b.at_)) rfl) rfl <| gc (bh Tryz.call65 rfl) (kk (eu a.at_ b.at_ 10 (by omega) za zb)) rfl <| g0 (ah rfl) rfl <| gn hK3 <| gr fun K4 hK4 => g0 (aj rfl) rfl <| g0 (gw rfl rfl) rfl <| gn hK4 ?_; clear h ac; intro ac wo h
 refine c8 h rfl (fun hc1 => ?_) (fun hc1 => ?_)
 ·
  have hq1 := hc1; try simp at hq1
  refine gz h <| gr fun K5 hK5 => g0 (aj rfl) rfl <| g0 (ah rfl) rfl <| gn hK5 <| gT ?_; clear h ac wo; intro ac wo h
  have hd : aQ a b = (aY a.at_ b.at_) := (cT hc1)
  exact ret h rfl (.tmp rfl .nil) rfl (h.retP (by rw [hd] <;> rfl) (by rw [hd]; exact (by first | omega | grind)))
 ·
  have hq1 := hc1; try simp at hq1
  refine gz h <| gS <| gx hK2 <| gq fun K6 hK6 => gB <| gr fun K7 hK7 => g0 (fa uu92 rfl zz4 rfl rfl rfl (k' := 9)) rfl <| g1 1 rfl (aZ aa4 zz4 rfl rfl rfl (v := (.bool a.behind)) rfl) rfl <| g0 (fa uu92 rfl zz4 rfl rfl rfl (k' := 9)) rfl <| g1 0 rfl (aZ aa4 zz4 rfl rfl rfl (v := (.bool b.behind)) rfl) rfl <| g0 (mf Tryz.underlying4 rfl rfl) rfl <| g0 (ah rfl) rfl <| gn hK7 ?_; clear h ac wo; intro ac wo h
  replace h := h.sub (F' := [(3, (ptr b2 0)), (14, (.bool (a.behind == b.behind)))]) ⟨rfl, rfl, trivial⟩
  refine c8 h rfl (fun hc2 => ?_) (fun hc2 => ?_)
  ·
   have hd2 := eq_of_beq hc2
   refine gz h <| gr fun K8 hK8 => g0 (ah rfl) rfl <| gn hK8 <| gT ?_; clear h ac wo; intro ac wo h
   have hd : aQ a b = 0 := (Eq.trans (cF hc1) (cT hc2))
   exact ret h rfl (.tmp rfl .nil) rfl (h.retP (by rw [hd] <;> rfl) (by rw [hd]; exact (by first | omega | grind)))
  ·
   have hd2 := ne_of_beq_false hc2
   refine gz h <| gr fun K9 hK9 => g0 (fa uu92 rfl zz4 rfl rfl rfl (k' := 9)) rfl <| g1 0 rfl (aZ aa4 zz4 rfl rfl rfl (v := (.bool b.behind)) rfl) rfl <| g0 (ah rfl) rfl <| gn hK9 ?_; clear h ac wo; intro ac wo h
   refine c8 h rfl (fun hc3 => ?_) (fun hc3 => ?_)
   ·
    have hq3 := hc3; try simp at hq3
    refine gz h <| gr fun K10 hK10 => g0 (ah rfl) rfl <| gn hK10 <| gT ?_; clear h ac wo; intro ac wo h
    have hd : aQ a b = (-1) := (Eq.trans (cF hc1) (Eq.trans (cF hc2) (cT hc3)))
    exact ret h rfl (.tmp rfl .nil) rfl (h.retP (by rw [hd] <;> rfl) (by rw [hd]; exact (by first | omega | grind)))
   ·
    have hq3 := hc3; try simp at hq3
    refine gz h <| gS <| gN <| gx hK6 <| gr fun K11 hK11 => g0 (ah rfl) rfl <| gn hK11 <| gT ?_; clear h ac wo; intro ac wo h
    have hd : aQ a b = 1 := (Eq.trans (cF hc1) (Eq.trans (cF hc2) (cF hc3)))
    exact ret h rfl (.tmp rfl .nil) rfl (h.retP (by rw [hd] <;> rfl) (by rw [hd]; exact (by first | omega | grind)))
attribute [irreducible] aQ
def a8 (a : Bd) (b : Bd) : Iv :=
 (⟨a.at_, b.at_, a.behind, (!b.behind)⟩ : Iv)
theorem fJ (a : Bd) (b : Bd) (za : SzW 30 a) (zb : SzW 30 b) (w0 : World)  : Calls Tryz.prog 74 #[(vW a), (vW b)] w0 (RetP w0 (vV (a8 a b)) (SzV 30 (a8 a b))) := by
 refine enter (N := 15) (args := [(vW a), (vW b)]) Tryz.func74 rfl rfl ?_; intro ac h
 refine bB fun K1 hK1 => ?_
 refine bx h (cW a) rfl rfl rfl fun b1 => gb (cW b) rfl rfl rfl fun b2 => ga (cV (⟨(⟨oQ, oQ, false⟩ : GR), (⟨oQ, oQ, false⟩ : GR), false, false⟩ : Iv)) Tryz.zeroValue66 rfl rfl fun b3 => gn hK1 <| gr fun K2 hK2 => g0 (fa uu92 rfl zz64 rfl rfl rfl (k' := 0)) rfl <| g1 2 rfl (aZ aa64 zz64 rfl rfl rfl (v := (vR a.at_)) rfl) rfl <| g0 (fa uu92 rfl zz64 rfl rfl rfl (k' := 0)) rfl <| g1 1 rfl (aZ aa64 zz64 rfl rfl rfl (v := (vR b.at_)) rfl) rfl <| g0 (fa uu92 rfl zz4 rfl rfl rfl (k' := 9)) rfl <| g1 2 rfl (aZ aa4 zz4 rfl rfl rfl (v := (.bool a.behind)) rfl) rfl <| g0 (fa uu92 rfl zz4 rfl rfl rfl (k' := 9)) rfl <| g1 1 rfl (aZ aa4 zz4 rfl rfl rfl (v := (.bool b.behind)) rfl) rfl <| g0 (eU rfl) rfl <| g0 (bW bld66 rfl rfl (v := (vV (⟨a.at_, b.at_, a.behind, (!b.behind)⟩ : Iv))) rfl) rfl <| gs 0 (cV (⟨a.at_, b.at_, a.behind, (!b.behind)⟩ : Iv)) rfl Tryz.sizeOf66 rfl rfl rfl rfl rfl rfl rfl <| gn hK2 <| gT ?_; clear h ac; intro ac wo h
 exact ret h rfl (.cell (v := (vV (⟨a.at_, b.at_, a.behind, (!b.behind)⟩ : Iv))) rfl (i := 0) rfl Tryz.isAgg66 Tryz.sizeOf66 rfl rfl rfl .nil) rfl (h.retP (by unfold a8; rfl) (by unfold a8; exact ⟨za, zb⟩))
attribute [irreducible] a8
def bE (x : Ev) (y : Ev) : Int :=
 (aQ x.at_ y.at_)
theorem fI (x : Ev) (y : Ev) (zx : SzE 30 x) (zy : SzE 30 y) (w0 : World)  : Calls Tryz.prog 73 #[(vE x), (vE y)] w0 (RetP w0 (.int .i64 (bE x y)) ((-1 ≤ (bE x y) ∧ (bE x y) ≤ 1))) := by
 refine enter (N := 10) (args := [(vE x), (vE y)]) Tryz.func73 rfl rfl ?_; intro ac h
 have c1 := ch x.at_ y.at_ zx zy
 have s1 := Calls.pr (c1 w0)
 have p2 := s1
 refine bB fun K1 hK1 => ?_
 refine bx h (cE x) rfl rfl rfl fun b1 => gb (cE y) rfl rfl rfl fun b2 => g0 (ah rfl) rfl <| gn hK1 <| gr fun K2 hK2 => g0 (fa uu107 rfl zz92 rfl rfl rfl (k' := 0)) rfl <| g1 1 rfl (aZ aa92 zz92 rfl rfl rfl (v := (vW x.at_)) rfl) rfl <| g0 (fa uu107 rfl zz92 rfl rfl rfl (k' := 0)) rfl <| g1 0 rfl (aZ aa92 zz92 rfl rfl rfl (v := (vW y.at_)) rfl) rfl <| gc (bh Tryz.call62 rfl) (kk c1) rfl <| g0 (ah rfl) rfl <| gn hK2 <| gT ?_; clear h ac; intro ac wo h
 exact ret h rfl (.tmp rfl .nil) rfl (h.retP (by unfold bE; rfl) (by unfold bE; exact (by first | omega | grind)))
attribute [irreducible] bE
def aP (a : Bool) (b : Bool) : Bool :=
 (a && b)
theorem iL (a : Bool) (b : Bool) (w0 : World)  : Calls Tryz.prog 47 #[(.bool a), (.bool b)] w0 (RetP w0 (.bool (aP a b)) (True)) := by
 refine enter (N := 9) (args := [(.bool a), (.bool b)]) Tryz.func47 rfl rfl ?_; intro ac h
 refine bB fun K1 hK1 => ?_
 refine rd0 h (ah rfl) rfl <| gn hK1 <| gr fun K2 hK2 => g0 (aj rfl) rfl <| g0 (aj rfl) rfl <| ge1 rfl rfl (fun hg => (Rd.of_nil (aj rfl)).step) rfl <| g0 (gH rfl (fun e => (bo rfl e))) rfl <| g0 (ah rfl) rfl <| gn hK2 <| gT ?_; clear h ac; intro ac wo h
 exact ret h rfl (.tmp rfl .nil) rfl (h.retP (by unfold aP; rfl) trivial)
attribute [irreducible] aP
def bf (a : Bool) (b : Bool) : Bool :=
 (a || b)
theorem jL (a : Bool) (b : Bool) (w0 : World)  : Calls Tryz.prog 75 #[(.bool a), (.bool b)] w0 (RetP w0 (.bool (bf a b)) (True)) := by
 refine enter (N := 9) (args := [(.bool a), (.bool b)]) Tryz.func75 rfl rfl ?_; intro ac h
 refine bB fun K1 hK1 => ?_
 refine rd0 h (ah rfl) rfl <| gn hK1 <| gr fun K2 hK2 => g0 (aj rfl) rfl <| g0 (aj rfl) rfl <| ge2 rfl rfl (fun hg => (Rd.of_nil (aj rfl)).step) rfl <| g0 (mM rfl (fun e => (bo rfl (mO e)))) rfl <| g0 (ah rfl) rfl <| gn hK2 <| gT ?_; clear h ac; intro ac wo h
 exact ret h rfl (.tmp rfl .nil) rfl (h.retP (by unfold bf; rfl) trivial)
attribute [irreducible] bf
def bg (a : Bool) (b : Bool) : Bool :=
 (a && (!b))
theorem jM (a : Bool) (b : Bool) (w0 : World)  : Calls Tryz.prog 59 #[(.bool a), (.bool b)] w0 (RetP w0 (.bool (bg a b)) (True)) := by
 refine enter (N := 10) (args := [(.bool a), (.bool b)]) Tryz.func59 rfl rfl ?_; intro ac h
 refine bB fun K1 hK1 => ?_
 refine rd0 h (ah rfl) rfl <| gn hK1 <| gr fun K2 hK2 => g0 (aj rfl) rfl <| g0 (aj rfl) rfl <| ge1 rfl rfl (fun hg => (Rd.of_nil (aj rfl)).step) rfl <| ge1 rfl rfl (fun hg => (Rd.of_nil (eU (bo rfl hg))).step) rfl <| g0 (gH rfl (fun e => (bo rfl e))) rfl <| g0 (ah rfl) rfl <| gn hK2 <| gT ?_; clear h ac; intro ac wo h
 exact ret h rfl (.tmp rfl .nil) rfl (h.retP (by unfold bg; rfl) trivial)
attribute [irreducible] bg
def eZ (data : List Ev) (a : Nat) (b : Nat) (i : Nat) (data1 : List Ev) : List Ev :=
 data1
def eY (data : List Ev) (a : Nat) (b : Nat) (i : Nat) (data1 : List Ev) (j : Nat) (data2 : List Ev) : Nx (Nat × (List Ev)) (List Ev) :=
 .go ((i + 1), data2)
def ce (data : List Ev) (a : Nat) (b : Nat) (i : Nat) (data1 : List Ev) (j : Nat) (data2 : List Ev) : Nx (Nat × (List Ev)) (List Ev) :=
 bif ((decide (((j : Nat) : Int) > ((a : Nat) : Int))) && (decide ((bE (gt data2 j) (gt data2 (j - 1))) < 0))) then
  .go ((j - 1), ((data2.set j (gt data2 (j - 1))).set (j - 1) (gt data2 j)))
 else
  .out (j, data2)
def cg (data : List Ev) (a : Nat) (b : Nat) (i : Nat) (data1 : List Ev) : Nx (Nat × (List Ev)) (List Ev) :=
 bif (decide (((i : Nat) : Int) < ((b : Nat) : Int))) then
  fin (cd (fun s => ce data a b i data1 s.1 s.2) (i + 1) (i, data1)) (fun s => eY data a b i data1 s.1 s.2) (fun r => .ret r)
 else
  .out (i, data1)
def bk (data : List Ev) (a : Nat) (b : Nat) : List Ev :=
 fin (cd (fun s => cg data a b s.1 s.2) ((b + 1 - (a + 1)) + 1) ((a + 1), data)) (fun s => eZ data a b s.1 s.2) (fun r => r)
theorem eX (data : List Ev) (datav : Value) (a : Nat) (b : Nat) (hab : a ≤ b) (hb : b ≤ data.length) (hb2 : b ≤ 1000) (zdata : All (SzE 30) data) (w0 w : World) (B : Asn) (hbel : Below w0.heap.size w0 w) (hsep : ∃ Z_, Sep w0.heap.size w [.row (α := Ev) 107 datav data, B] Z_)  : Calls Tryz.prog 105 #[datav, (.int .i64 ((a : Nat) : Int)), (.int .i64 ((b : Nat) : Int)), (.func (.func 73) #[] #[])] w (RetY w0 (fun v => v = .tuple #[] ∧ (All (SzE 30) (bk data a b) ∧ (bk data a b).length = data.length)) (fun v => [.row (α := Ev) 107 datav (bk data a b), B])) := by
 refine nC (N := 53) (args := [datav, (.int .i64 ((a : Nat) : Int)), (.int .i64 ((b : Nat) : Int)), (.func (.func 73) #[] #[])]) Tryz.func105 rfl rfl hbel hsep ?_; intro ac h
 have hlendata := h.len 0 rfl
 refine bB fun K1 hK1 => ?_
 refine rd0 h (aj rfl) rfl <| g0 (bO rfl rfl (r := ((a + 1 : Nat) : Int)) (by rw [IntKind.wrap_i64]; first | omega | grind)) rfl <| g0 (ah rfl) rfl <| gn hK1 <| gB ?_; clear h ac; intro ac wo h
 obtain ⟨X1, hX1⟩ : ∃ X, cd (fun s => cg data a b s.1 s.2) ((b + 1 - (a + 1)) + 1) ((a + 1), data) = X := ⟨_, rfl⟩
 refine wp_loop_ghost (fun n_ a_ w_ => ∃ (i : Nat) (data1 : List Ev), ((b + 1 - i) < n_) ∧ (cd (fun s => cg data a b s.1 s.2) n_ (i, data1) = X1) ∧ (i ≤ b + 1) ∧ (All (SzE 30) data1) ∧ (data1.length = data.length) ∧ St w0 53 [(0, datav), (1, (.int .i64 ((a : Nat) : Int))), (2, (.int .i64 ((b : Nat) : Int))), (3, (.func (.func 73) #[] #[])), (8, (.int .i64 ((i : Nat) : Int)))] [.row (α := Ev) 107 datav data1, B] a_ w_) ((b + 1 - (a + 1)) + 1) ⟨(a + 1), data, (by omega), hX1, (by first | omega | grind), zdata, (by first | omega | grind), (h.sub ⟨rfl, rfl, rfl, rfl, rfl, trivial⟩)⟩ ?_
 clear h ac wo; rintro n1 ac wo ⟨i, data1, hm1, hL1, hi, zdata1, hdl, h⟩
 obtain ⟨m1, rfl⟩ : ∃ m, n1 = m + 1 := ⟨n1 - 1, by omega⟩
 refine gz h <| gq fun K2 hK2 => gr fun K3 hK3 => g0 (aj rfl) rfl <| g0 (aj rfl) rfl <| g0 (dr rfl rfl) rfl <| gn hK3 ?_; clear h ac wo; intro ac wo h
 refine c8 h rfl (fun hc1 => ?_) (fun hc1 => ?_)
 ·
  have hd1 := of_decide_eq_true hc1
  refine gz h <| gS <| gx hK2 <| gq fun K4 hK4 => gB <| gr fun K5 hK5 => g0 (aj rfl) rfl <| g0 (ah rfl) rfl <| gn hK5 <| gB ?_; clear h ac wo; intro ac wo h
  obtain ⟨X2, hX2⟩ : ∃ X, cd (fun s => ce data a b i data1 s.1 s.2) (i + 1) (i, data1) = X := ⟨_, rfl⟩
  refine wp_loop_ghost (fun n_ a_ w_ => ∃ (j : Nat) (data2 : List Ev), (j < n_) ∧ (cd (fun s => ce data a b i data1 s.1 s.2) n_ (j, data2) = X2) ∧ (All (SzE 30) data2) ∧ (j ≤ i) ∧ (data2.length = data.length) ∧ St w0 53 [(0, datav), (1, (.int .i64 ((a : Nat) : Int))), (2, (.int .i64 ((b : Nat) : Int))), (3, (.func (.func 73) #[] #[])), (8, (.int .i64 ((i : Nat) : Int))), (9, (.int .i64 ((j : Nat) : Int)))] [.row (α := Ev) 107 datav data2, B] a_ w_) (i + 1) ⟨i, data1, (by omega), hX2, zdata1, (by first | omega | grind), (by first | omega | grind), (h.sub ⟨rfl, rfl, rfl, rfl, rfl, rfl, trivial⟩)⟩ ?_
  clear h ac wo; rintro n2 ac wo ⟨j, data2, hm2, hL2, zdata2, hj, hdl2, h⟩
  obtain ⟨m2, rfl⟩ : ∃ m, n2 = m + 1 := ⟨n2 - 1, by omega⟩
  refine bP fun K6 hK6 => ?_
  refine bP fun K7 hK7 => ?_
  have s1 := Calls.pr ((fun w_ hB_ hS_ => fI (gt data2 j) (gt data2 (j - 1)) (All.gt zdata2 (gk _)) (All.gt zdata2 (gk _)) w_ ) _ h.bel h.sep)
  have p2 := s1
  refine dc mixed [dv _, dv _, dv _, dv _, dv _, dv _, dv _, dv _, dw _ [0], dv _, dv _, dv _, dv _, dw _ [0], dv _, dv _, dv _] [⟨_, []⟩, ⟨_, []⟩] h rfl (by kernel_rfl) ⟨fun _ _ => om rfl, fun _ _ => om rfl, fun _ _ => ay (iB rfl rfl), fun _ _ => om rfl, fun _ _ => oh rfl rfl rfl rfl (fun hg => aj rfl), fun _ _ => oh rfl rfl rfl rfl (fun hg => aj rfl), fun _ _ => oh rfl rfl rfl rfl (fun hg => aj rfl), fun _ _ => oh rfl rfl rfl rfl (fun hg => ep (i := j) uu103 zz107 (bo rfl hg) (bo rfl hg) (h.row_nn 0 rfl (by first | omega | (simp at hg; omega) | grind)) (by first | omega | (simp at hg; omega) | grind)), fun _ _ => oh rfl rfl rfl rfl (fun hg => er (k := 0) aa107 zz107 (ec (by first | omega | (simp at hg; omega) | grind)) (bo rfl hg) (Nat.add_zero _) rfl rfl (v := (vE (gt data2 j))) rfl), fun _ _ => oh rfl rfl rfl rfl (fun hg => aj rfl), fun _ _ => oh rfl rfl rfl rfl (fun hg => aj rfl), fun _ _ => oh rfl rfl rfl rfl (fun hg => eI (bo rfl hg) rfl (r := (((j - 1) : Nat) : Int)) (by rw [IntKind.wrap_i64]; first | omega | (simp at hg; omega) | grind)), fun _ _ => oh rfl rfl rfl rfl (fun hg => ep (i := (j - 1)) uu103 zz107 (bo rfl hg) (bo rfl hg) (h.row_nn 0 rfl (by first | omega | (simp at hg; omega) | grind)) (by first | omega | (simp at hg; omega) | grind)), fun _ _ => oh rfl rfl rfl rfl (fun hg => er (k := 0) aa107 zz107 (ec (by first | omega | (simp at hg; omega) | grind)) (bo rfl hg) (Nat.add_zero _) rfl rfl (v := (vE (gt data2 (j - 1)))) rfl), fun _ _ => og1 rfl rfl rfl rfl (fun hg => df (ow (cap := []) Tryz.call73 (bo rfl hg) (en (bo rfl hg) (en (bo rfl hg) rfl))) (kk (fI (gt data2 j) (gt data2 (j - 1)) (All.gt zdata2 (gk _)) (All.gt zdata2 (gk _))))), fun _ _ => oh rfl rfl rfl rfl (fun hg => dr (bo rfl hg) rfl), fun _ _ => ay (gH rfl (fun e => (bo rfl e))), trivial⟩ ?_
  clear h ac wo; intro ξ ac wo hφ h
  replace h : St w0 53 [(0, datav), (1, (.int .i64 ((a : Nat) : Int))), (2, (.int .i64 ((b : Nat) : Int))), (3, (.func (.func 73) #[] #[])), (8, (.int .i64 ((i : Nat) : Int))), (9, (.int .i64 ((j : Nat) : Int))), (34, (.bool ((decide (((j : Nat) : Int) > ((a : Nat) : Int))) && (decide ((bE (gt data2 j) (gt data2 (j - 1))) < 0)))))] [.row (α := Ev) 107 datav data2, B] ac wo := (h.pick [0, 1] (by decide)).sub ⟨rfl, rfl, rfl, rfl, rfl, rfl, rfl, trivial⟩
  clear hφ ξ
  refine hK7 _ _ ?_
  refine c8 h rfl (fun hc2 => ?_) (fun hc2 => ?_)
  ·
   have hq2 := hc2; try simp at hq2
   refine bR ?_
   refine hK6 _ _ ?_
   refine bP fun K8 hK8 => ?_
   refine dm ?_
   refine dc mixed [dv _, dv _, dv _, dv _, dv _, dv _, dv _, dv _, dv _, dw _ [0], dv _, dv _, dv _, dw _ [0], dv _, dw _ [0], dv _, dw _ [0]] [⟨.row (α := Ev) 107 datav data2, [(15, .con (.row (α := Ev) 107 datav (data2.set j (gt data2 (j - 1))))), (17, .con (.row (α := Ev) 107 datav ((data2.set j (gt data2 (j - 1))).set (j - 1) (gt data2 j))))]⟩, ⟨_, []⟩] h rfl (by kernel_rfl) ⟨fun _ _ => om rfl, fun _ _ => om rfl, fun _ _ => om rfl, fun _ _ => om rfl, fun _ _ => ay (eI rfl rfl (r := (((j - 1) : Nat) : Int)) (by rw [IntKind.wrap_i64]; first | omega | grind)), fun _ _ => om rfl, fun _ _ => om rfl, fun _ _ => ay (eI rfl rfl (r := (((j - 1) : Nat) : Int)) (by rw [IntKind.wrap_i64]; first | omega | grind)), fun _ _ => ay (ep (i := (j - 1)) uu103 zz107 rfl rfl (h.row_nn 0 rfl (by first | omega | grind)) (by first | omega | grind)), fun _ _ => bT _ rfl rfl (er (k := 0) aa107 zz107 (ec (by first | omega | grind)) rfl (Nat.add_zero _) rfl rfl (v := (vE (gt data2 (j - 1)))) rfl), fun _ _ => om rfl, fun _ _ => om rfl, fun _ _ => ay (ep (i := j) uu103 zz107 rfl rfl (h.row_nn 0 rfl (by first | omega | grind)) (by first | omega | grind)), fun _ _ => bT _ rfl rfl (er (k := 0) aa107 zz107 (ec (by first | omega | grind)) rfl (Nat.add_zero _) rfl rfl (v := (vE (gt data2 j))) rfl), fun _ _ => ay (ep (i := j) uu103 zz107 rfl rfl (h.row_nn 0 rfl (by first | omega | grind)) (by first | omega | grind)), fun _ _ => es _ [.row (α := Ev) 107 datav (data2.set j (gt data2 (j - 1)))] rfl rfl (gG (k := 0) (u' := (gt data2 (j - 1))) zz107 (ec (by first | omega | grind)) rfl (Nat.add_zero _) rfl rfl rfl rfl rfl rfl), fun _ _ => ay (ep (i := (j - 1)) uu103 zz107 rfl rfl (h.row_nn 0 rfl (by first | omega | grind)) (by first | omega | grind)), fun _ _ => es _ [.row (α := Ev) 107 datav ((data2.set j (gt data2 (j - 1))).set (j - 1) (gt data2 j))] rfl rfl (gG (k := 0) (u' := (gt data2 j)) zz107 (ec (by first | omega | grind)) rfl (Nat.add_zero _) rfl rfl rfl rfl rfl rfl), trivial⟩ ?_
   clear h ac wo; intro ξ ac wo hφ h
   replace h : St w0 53 [(0, datav), (1, (.int .i64 ((a : Nat) : Int))), (2, (.int .i64 ((b : Nat) : Int))), (3, (.func (.func 73) #[] #[])), (8, (.int .i64 ((i : Nat) : Int))), (9, (.int .i64 ((j : Nat) : Int)))] [.row (α := Ev) 107 datav ((data2.set j (gt data2 (j - 1))).set (j - 1) (gt data2 j)), B] ac wo := (h.pick [0, 1] (by decide)).sub ⟨rfl, rfl, rfl, rfl, rfl, rfl, trivial⟩
   clear hφ ξ
   refine gz h <| gN <| gx hK8 <| gR <| g0 (aj rfl) rfl <| g0 (eI rfl rfl (r := (((j - 1) : Nat) : Int)) (by rw [IntKind.wrap_i64]; first | omega | grind)) rfl <| g0 (ah rfl) rfl <| gx (fun _ _ => aE) ?_; clear h ac wo; intro ac wo h
   exact aR ⟨m2, (by omega), _, _, (by first | omega | grind), cC hL2 (show ce data a b i data1 j data2 = .go _ from (cT hc2)), (All.set (All.set zdata2 (All.gt zdata2 (gk _))) (All.gt zdata2 (gk _))), (by first | omega | grind), (by first | omega | grind), (h.pick [0, 1] (by decide)).sub ⟨rfl, rfl, rfl, rfl, rfl, rfl, trivial⟩⟩
  ·
   have hq2 := hc2; try simp at hq2
   refine dW ?_
   have hx2 := ej hL2 (show ce data a b i data1 j data2 = .out (j, data2) from (cF hc2))
   refine gz h <| gx hK4 <| gR <| g0 (aj rfl) rfl <| g0 (bO rfl rfl (r := ((i + 1 : Nat) : Int)) (by rw [IntKind.wrap_i64]; first | omega | grind)) rfl <| g0 (ah rfl) rfl <| gx (fun _ _ => aE) ?_; clear h ac wo; intro ac wo h
   exact aR ⟨m1, (by omega), _, _, (by first | omega | grind), cC hL1 (show cg data a b i data1 = .go _ from (Eq.trans (cT hc1) (fe (hX2.trans hx2)))), (by first | omega | grind), zdata2, (by first | omega | grind), (h.pick [0, 1] (by decide)).sub ⟨rfl, rfl, rfl, rfl, rfl, trivial⟩⟩
 ·
  have hd1 := of_decide_eq_false hc1
  refine dW ?_
  have hx1 := ej hL1 (show cg data a b i data1 = .out (i, data1) from (cF hc1))
  have hd : bk data a b = data1 := (fe (hX1.trans hx1))
  exact retN (vs := []) h rfl .nil rfl ((h.pick [0, 1] (by decide)).retY ⟨rfl, (by rw [hd]; exact ⟨zdata1, (by first | omega | grind)⟩)⟩ (by rw [hd]; rfl))
attribute [irreducible] bk
end Go.Sx
namespace Go.Sx
open Go Go.RowKit Go.Proofs
set_option maxRecDepth 100000
set_option maxHeartbeats 40000000
attribute [local irreducible] aY bS an aI aM d7
def bJ (data : List Ev) (a : Nat) (b : Nat) (limit : Int) : List Ev :=
  (bk data a b)
theorem fS (data : List Ev) (datav : Value) (a : Nat) (b : Nat) (limit : Int) (hab : a ≤ b) (hb : b ≤ data.length) (hb2 : b ≤ 1000) (h12 : b ≤ a + 12) (zdata : All (SzE 30) data) (w0 w : World) (B : Asn) (hbel : Below w0.heap.size w0 w) (hsep : ∃ Z_, Sep w0.heap.size w [.row (α := Ev) 107 datav data, B] Z_)  : Calls Tryz.prog 90 #[datav, (.int .i64 ((a : Nat) : Int)), (.int .i64 ((b : Nat) : Int)), (.int .i64 limit), (.func (.func 73) #[] #[])] w (RetY w0 (fun v => v = .tuple #[] ∧ (All (SzE 30) (bJ data a b limit) ∧ (bJ data a b limit).length = data.length)) (fun v => [.row (α := Ev) 107 datav (bJ data a b limit), B])) := by
  refine nC (N := 148) (args := [datav, (.int .i64 ((a : Nat) : Int)), (.int .i64 ((b : Nat) : Int)), (.int .i64 limit), (.func (.func 73) #[] #[])]) Tryz.func90 rfl rfl hbel hsep ?_; intro ac h
  have hlendata := h.len 0 rfl
  refine bB fun K1 hK1 => ?_
  refine rd0 h (ah rfl (v := (.bool true))) rfl ?_; clear h ac; intro ac wo h
  refine aE ?_
  refine hK1 _ _ ?_
  refine bB fun K2 hK2 => ?_
  refine rd0 h (ah rfl (v := (.bool true))) rfl ?_; clear h ac wo; intro ac wo h
  refine aE ?_
  refine hK2 _ _ ?_
  refine dm ?_
  refine iD 1 ?_
  refine dm ?_
  refine bB fun K3 hK3 => ?_
  refine rd0 h (aj rfl) rfl ?_; clear h ac wo; intro ac wo h
  refine rd0 h (aj rfl) rfl ?_; clear h ac wo; intro ac wo h
  refine rd0 h (eI rfl rfl (r := (((b - a) : Nat) : Int)) (by rw [IntKind.wrap_i64]; first | omega | (simp only [aq, Bool.cond_decide, Bool.cond_eq_ite, List.length_append, List.length_set, List.length_cons, List.length_nil, List.length_take, List.length_drop, List.length_replicate] at *; omega))) rfl ?_; clear h ac wo; intro ac wo h
  refine rd0 h (ah rfl) rfl ?_; clear h ac wo; intro ac wo h
  refine aE ?_
  refine hK3 _ _ ?_
  refine bP fun K4 hK4 => ?_
  refine bB fun K5 hK5 => ?_
  refine rd0 h (aj rfl) rfl ?_; clear h ac wo; intro ac wo h
  refine rd0 h (r_leq rfl rfl) rfl ?_; clear h ac wo; intro ac wo h
  refine aE ?_
  refine hK5 _ _ ?_
  refine kO h rfl ?_ (decide_eq_true (by omega))
  refine bB fun K6 hK6 => ?_
  refine rd0 h (aj rfl) rfl ?_; clear h ac wo; intro ac wo h
  refine rd0 h (aj rfl) rfl ?_; clear h ac wo; intro ac wo h
  refine rd0 h (aj rfl) rfl ?_; clear h ac wo; intro ac wo h
  refine rd0 h (aj rfl) rfl ?_; clear h ac wo; intro ac wo h
  refine on1 h 0 rfl (o4 (vs := [datav, (.int .i64 ((a : Nat) : Int)), (.int .i64 ((b : Nat) : Int)), (.func (.func 73) #[] #[])]) (A := fun v => [.row (α := Ev) 107 datav (bk data a b)]) (bh Tryz.call105 rfl) (fun w_ B_ hB_ hS_ => eX data datav a b (by first | assumption | omega | (simp only [aq, Bool.cond_decide, Bool.cond_eq_ite, List.length_append, List.length_set, List.length_cons, List.length_nil, List.length_take, List.length_drop, List.length_replicate] at *; done) | (simp only [aq, Bool.cond_decide, Bool.cond_eq_ite, List.length_append, List.length_set, List.length_cons, List.length_nil, List.length_take, List.length_drop, List.length_replicate] at *; omega) | (simp only [aq, Bool.cond_decide, Bool.cond_eq_ite, List.length_append, List.length_set, List.length_cons, List.length_nil, List.length_take, List.length_drop, List.length_replicate]; omega)) (by first | assumption | omega | (simp only [aq, Bool.cond_decide, Bool.cond_eq_ite, List.length_append, List.length_set, List.length_cons, List.length_nil, List.length_take, List.length_drop, List.length_replicate] at *; done) | (simp only [aq, Bool.cond_decide, Bool.cond_eq_ite, List.length_append, List.length_set, List.length_cons, List.length_nil, List.length_take, List.length_drop, List.length_replicate] at *; omega) | (simp only [aq, Bool.cond_decide, Bool.cond_eq_ite, List.length_append, List.length_set, List.length_cons, List.length_nil, List.length_take, List.length_drop, List.length_replicate]; omega)) (by first | assumption | omega | (simp only [aq, Bool.cond_decide, Bool.cond_eq_ite, List.length_append, List.length_set, List.length_cons, List.length_nil, List.length_take, List.length_drop, List.length_replicate] at *; done) | (simp only [aq, Bool.cond_decide, Bool.cond_eq_ite, List.length_append, List.length_set, List.length_cons, List.length_nil, List.length_take, List.length_drop, List.length_replicate] at *; omega) | (simp only [aq, Bool.cond_decide, Bool.cond_eq_ite, List.length_append, List.length_set, List.length_cons, List.length_nil, List.length_take, List.length_drop, List.length_replicate]; omega)) zdata w0 w_ B_ hB_ hS_ )) rfl ?_; clear h ac wo; intro vc ac wo s2 h
  obtain rfl : vc = _ := s2.1
  have p3 := s2.2.2
  refine aE ?_
  refine hK6 _ _ ?_
  replace h := h.sub (F' := []) trivial
  refine cr ?_
  have hd : bJ data a b limit = (bk data a b) := rfl
  exact ret (rs := []) (vs := []) h rfl .nil rfl ((h.pick [0, 1] (by decide)).retY ⟨rfl, (by rw [hd]; exact ⟨s2.2.1, (by first | assumption | omega | (simp only [aq, Bool.cond_decide, Bool.cond_eq_ite, List.length_append, List.length_set, List.length_cons, List.length_nil, List.length_take, List.length_drop, List.length_replicate] at *; done) | (simp only [aq, Bool.cond_decide, Bool.cond_eq_ite, List.length_append, List.length_set, List.length_cons, List.length_nil, List.length_take, List.length_drop, List.length_replicate] at *; omega) | (simp only [aq, Bool.cond_decide, Bool.cond_eq_ite, List.length_append, List.length_set, List.length_cons, List.length_nil, List.length_take, List.length_drop, List.length_replicate]; omega))⟩)⟩ (by rw [hd]; rfl))
attribute [irreducible] bJ
end Go.Sx
namespace Go.Sx
open Go Go.RowKit Go.Proofs
set_option maxRecDepth 100000
set_option maxHeartbeats 40000000
attribute [local irreducible] aY bS an aI aM d7
def eh (x : Nat) : Int :=
  ((Lib.bitLen x : Nat) : Int)
theorem j5 (x : Nat) (hx : x < 18446744073709551616) (w0 : World)  : Calls Tryz.prog 91 #[(.int .u64 ((x : Nat) : Int))] w0 (RetP w0 (.int .i64 (eh x)) (True)) := by
  refine enter (N := 8) (args := [(.int .u64 ((x : Nat) : Int))]) Tryz.func91 rfl rfl ?_; intro ac h
  refine bB fun K1 hK1 => ?_
  refine rd0 h (ah rfl (v := (.int .i64 0))) rfl ?_; clear h ac; intro ac wo h
  refine aE ?_
  refine hK1 _ _ ?_
  refine bP fun K2 hK2 => ?_
  refine kP (b := false) h rfl ?_
  refine bR ?_
  refine hK2 _ _ ?_
  refine bB fun K3 hK3 => ?_
  refine rd0 h (aj rfl) rfl ?_; clear h ac wo; intro ac wo h
  refine dQ (vs := [(.int .u64 ((x : Nat) : Int))]) h (bh Tryz.call96 rfl) (fun w_ hB_ hS_ => (nO x (by assumption)) w_) rfl ?_; clear h ac wo; intro ac wo h
  refine rd0 h (ah rfl) rfl ?_; clear h ac wo; intro ac wo h
  refine aE ?_
  refine hK3 _ _ ?_
  refine cr ?_
  have hd : eh x = ((Lib.bitLen x : Nat) : Int) := rfl
  exact ret (rs := [.tmp 2]) h rfl (.tmp rfl .nil) rfl (h.retP (by rw [hd] <;> rfl) trivial)
attribute [irreducible] eh
def bK (x : List Ev) : List Ev :=
  (bJ x 0 x.length (eh x.length))
theorem fT (x : List Ev) (xv : Value) (hl : x.length ≤ 12) (zx : All (SzE 30) x) (w0 w : World) (B : Asn) (hbel : Below w0.heap.size w0 w) (hsep : ∃ Z_, Sep w0.heap.size w [.row (α := Ev) 107 xv x, B] Z_)  : Calls Tryz.prog 72 #[xv, (.func (.func 73) #[] #[])] w (RetY w0 (fun v => v = .tuple #[] ∧ (All (SzE 30) (bK x) ∧ (bK x).length = x.length)) (fun v => [.row (α := Ev) 107 xv (bK x), B])) := by
  refine nC (N := 14) (args := [xv, (.func (.func 73) #[] #[])]) Tryz.func72 rfl rfl hbel hsep ?_; intro ac h
  have hlenx := h.len 0 rfl
  refine bB fun K1 hK1 => ?_
  refine rd0 h (aj rfl) rfl ?_; clear h ac; intro ac wo h
  refine rd0 h (dx uu103 rfl (h.row_sl 0 rfl)) rfl ?_; clear h ac wo; intro ac wo h
  refine rd0 h (ah rfl) rfl ?_; clear h ac wo; intro ac wo h
  refine aE ?_
  refine hK1 _ _ ?_
  refine c_r ?_
  refine rd0 h (aj rfl) rfl ?_; clear h ac wo; intro ac wo h
  refine rd0 h (aj rfl) rfl ?_; clear h ac wo; intro ac wo h
  refine rd0 h (aj rfl) rfl ?_; clear h ac wo; intro ac wo h
  refine rd0 h (be Tryz.runUnderlying3 Tryz.runUnderlying127 rfl (r := ((x.length : Nat) : Int)) (by rw [IntKind.wrap_u64]; first | omega | (simp only [aq, Bool.cond_decide, Bool.cond_eq_ite, List.length_append, List.length_set, List.length_cons, List.length_nil, List.length_take, List.length_drop, List.length_replicate] at *; omega))) rfl ?_; clear h ac wo; intro ac wo h
  refine dQ (vs := [(.int .u64 ((x.length : Nat) : Int))]) h (bh Tryz.call91 rfl) (fun w_ hB_ hS_ => j5 x.length (by first | assumption | omega | (simp only [aq, Bool.cond_decide, Bool.cond_eq_ite, List.length_append, List.length_set, List.length_cons, List.length_nil, List.length_take, List.length_drop, List.length_replicate] at *; done) | (simp only [aq, Bool.cond_decide, Bool.cond_eq_ite, List.length_append, List.length_set, List.length_cons, List.length_nil, List.length_take, List.length_drop, List.length_replicate] at *; omega) | (simp only [aq, Bool.cond_decide, Bool.cond_eq_ite, List.length_append, List.length_set, List.length_cons, List.length_nil, List.length_take, List.length_drop, List.length_replicate]; omega)) w_ ) rfl ?_; clear h ac wo; intro ac wo h
  refine rd0 h (aj rfl) rfl ?_; clear h ac wo; intro ac wo h
  refine on1 h 0 rfl (o4 (vs := [xv, (.int .i64 0), (.int .i64 ((x.length : Nat) : Int)), (.int .i64 (eh x.length)), (.func (.func 73) #[] #[])]) (A := fun v => [.row (α := Ev) 107 xv (bJ x 0 x.length (eh x.length))]) (bh Tryz.call90 rfl) (fun w_ B_ hB_ hS_ => fS x xv 0 x.length (eh x.length) (by first | assumption | omega | (simp only [aq, Bool.cond_decide, Bool.cond_eq_ite, List.length_append, List.length_set, List.length_cons, List.length_nil, List.length_take, List.length_drop, List.length_replicate] at *; done) | (simp only [aq, Bool.cond_decide, Bool.cond_eq_ite, List.length_append, List.length_set, List.length_cons, List.length_nil, List.length_take, List.length_drop, List.length_replicate] at *; omega) | (simp only [aq, Bool.cond_decide, Bool.cond_eq_ite, List.length_append, List.length_set, List.length_cons, List.length_nil, List.length_take, List.length_drop, List.length_replicate]; omega)) (by first | assumption | omega | (simp only [aq, Bool.cond_decide, Bool.cond_eq_ite, List.length_append, List.length_set, List.length_cons, List.length_nil, List.length_take, List.length_drop, List.length_replicate] at *; done) | (simp only [aq, Bool.cond_decide, Bool.cond_eq_ite, List.length_append, List.length_set, List.length_cons, List.length_nil, List.length_take, List.length_drop, List.length_replicate] at *; omega) | (simp only [aq, Bool.cond_decide, Bool.cond_eq_ite, List.length_append, List.length_set, List.length_cons, List.length_nil, List.length_take, List.length_drop, List.length_replicate]; omega)) (by first | assumption | omega | (simp only [aq, Bool.cond_decide, Bool.cond_eq_ite, List.length_append, List.length_set, List.length_cons, List.length_nil, List.length_take, List.length_drop, List.length_replicate] at *; done) | (simp only [aq, Bool.cond_decide, Bool.cond_eq_ite, List.length_append, List.length_set, List.length_cons, List.length_nil, List.length_take, List.length_drop, List.length_replicate] at *; omega) | (simp only [aq, Bool.cond_decide, Bool.cond_eq_ite, List.length_append, List.length_set, List.length_cons, List.length_nil, List.length_take, List.length_drop, List.length_replicate]; omega)) (by first | assumption | omega | (simp only [aq, Bool.cond_decide, Bool.cond_eq_ite, List.length_append, List.length_set, List.length_cons, List.length_nil, List.length_take, List.length_drop, List.length_replicate] at *; done) | (simp only [aq, Bool.cond_decide, Bool.cond_eq_ite, List.length_append, List.length_set, List.length_cons, List.length_nil, List.length_take, List.length_drop, List.length_replicate] at *; omega) | (simp only [aq, Bool.cond_decide, Bool.cond_eq_ite, List.length_append, List.length_set, List.length_cons, List.length_nil, List.length_take, List.length_drop, List.length_replicate]; omega)) zx w0 w_ B_ hB_ hS_ )) rfl ?_; clear h ac wo; intro vc ac wo s2 h
  obtain rfl : vc = _ := s2.1
  have p3 := s2.2.2
  refine aE ?_
  have hd : bK x = (bJ x 0 x.length (eh x.length)) := rfl
  exact retN (rs := []) (vs := []) h rfl .nil rfl ((h.pick [0, 1] (by decide)).retY ⟨rfl, (by rw [hd]; exact ⟨s2.2.1, (by first | assumption | omega | (simp only [aq, Bool.cond_decide, Bool.cond_eq_ite, List.length_append, List.length_set, List.length_cons, List.length_nil, List.length_take, List.length_drop, List.length_replicate] at *; done) | (simp only [aq, Bool.cond_decide, Bool.cond_eq_ite, List.length_append, List.length_set, List.length_cons, List.length_nil, List.length_take, List.length_drop, List.length_replicate] at *; omega) | (simp only [aq, Bool.cond_decide, Bool.cond_eq_ite, List.length_append, List.length_set, List.length_cons, List.length_nil, List.length_take, List.length_drop, List.length_replicate]; omega))⟩)⟩ (by rw [hd]; rfl))
attribute [irreducible] bK
end Go.Sx
