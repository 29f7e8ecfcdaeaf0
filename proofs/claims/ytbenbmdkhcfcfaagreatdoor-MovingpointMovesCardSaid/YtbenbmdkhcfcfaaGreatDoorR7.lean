/- A part of the proof of movingpointMoves. -/
import Derived.Test.YtbenbmdkhcfcfaaGreatDoorR6
import Derived.Test.YtbenbmdkhcfcfaaGreatDoorR4
import Derived.Test.YtbenbmdkhcfcfaaGreatDoorR5
import Derived.Test.YtbenbmdkhcfcfaaGreatDoorProg
set_option linter.unusedVariables false
set_option linter.unusedSimpArgs false
open Go.Proofs.Tryz renaming runUnderlying254 → uu254, runUnderlying3 → uu3, sizeOf321 → zz321
namespace Go.Sx
open Go Go.RowKit Go.Proofs
set_option maxRecDepth 100000
set_option maxHeartbeats 40000000
attribute [local irreducible] Code.wp wpList Rd Step ObS Ent
attribute [local irreducible] ao aN ah aw ay bP
theorem kQ (t x y : Int) (k : Nat) (hk : k ≤ 40) (ht : -9223372036854775808 ≤ t ∧ t ≤ 9223372036854775807) (hx : -9223372036854775808 ≤ x ∧ x ≤ 9223372036854775807) (hy : -9223372036854775808 ≤ y ∧ y ≤ 9223372036854775807) (w0 : World) : Calls Tryz.prog 15 #[.int .i64 t, .int .i64 x, .int .i64 y] w0 (dh w0 (vSm (dS t x y)) (ux k (dS t x y))) := by
 refine enter (N := 15) (args := [.int .i64 t, .int .i64 x, .int .i64 y]) Tryz.func15 rfl rfl ?_; intro ac h
 have c1 := bR t k hk ht
 have c2 := bR x k hk hx
 have c3 := bR y k hk hy
 refine gz h <| (xa) fun b1 => (xk c1) <| (xk c2) <| (xk c3) <| (W) ?_; clear h ac; intro ac wo h
 exact rtc 0 h (h.retP (u := vSm (dS t x y)) rfl ⟨am (c1 w0), am (c2 w0), am (c3 w0)⟩)
def exampleS : List Smp := [dS 0 0 0, dS 2 4 0, dS 4 4 6]
theorem ug (w0 : World) : Calls Tryz.prog 83 #[] w0 (RetR w0 31 exampleS True) := by
 refine enter (N := 5) (args := []) Tryz.func83 rfl rfl ?_; intro ac h
 refine gz h <| (xk (kQ 0 0 0 40 (by omega) (by omega) (by omega) (by omega))) <| (xk (kQ 2 4 0 40 (by omega) (by omega) (by omega) (by omega))) <| (xk (kQ 4 4 6 40 (by omega) (by omega) (by omega) (by omega))) <| (W) ?_; clear h ac; intro ac wo h
 refine nw h (di (α := Smp) (xs := [.tmp 1, .tmp 2, .tmp 3]) (vs := [vSm (dS 0 0 0), vSm (dS 2 4 0), vSm (dS 4 4 6)]) exampleS slt23 rfl rfl rfl (by decide)) rfl ?_; clear h ac wo; intro s1 ac wo _ h
 refine gz h <| (W) ?_; clear h ac wo; intro ac wo h
 exact (rt h) (h.retR 0 rfl trivial)
def bG (a : GI) : Int := if a.neg then -(a.mag : Int) else a.mag
theorem iq (a : GI) (hm : a.mag < 4611686018427387904) (w0 : World) : Calls Tryz.prog 186 #[vI a] w0 (dh w0 (.tuple #[.int .i64 (bG a), .bool true]) True) := by
 refine enter (N := 35) (args := [vI a]) Tryz.func186 rfl rfl ?_; intro ac h
 have e : dB a.mag = (a.mag, true) := by rw [oz, if_pos (by omega)]
 have c1 : ∀ w0, Calls Tryz.prog 249 #[(.string (bs a.mag))] w0 (dh w0 (.tuple #[(.int .u64 (a.mag : Int)), (.bool true)]) True) := fun w0 => by
  have := iL a.mag w0
  rw [e] at this; exact this
 refine gz h <| (xb) fun b1 => (xk c1) <| (ai) ?_ ?_ <;> clear h ac <;> intro ac wo h hc1
 · cases hc1
 refine gz h <| (ai) ?_ ?_ <;> clear h ac wo <;> intro ac wo h hc2
 ·
  obtain ⟨h1, h2⟩ := Bool.and_eq_true_iff.mp hc2
  have e3 : bG a = -(a.mag : Int) := by unfold bG; rw [if_pos h1]
  rw [e3]
  refine gz h <| (xo (hs := by exact r_neg rfl (r := IntKind.u64.wrap (-(a.mag : Int))) rfl)) <| (xo (hs := by exact bh uu254 uu3 rfl (r := -(a.mag : Int)) (by rw [IntKind.wrap_u64, IntKind.wrap_i64]; omega))) <| (W) ?_; clear h ac wo; intro ac wo h
  exact (rt h) (h.retP rfl trivial)
 ·
  have h1 : a.neg = false := by
   have : decide ((a.mag : Int) ≤ 9223372036854775808) = true := decide_eq_true (by omega)
   rw [this, Bool.and_true] at hc2; exact hc2
  have e3 : bG a = (a.mag : Int) := by unfold bG; rw [h1]; rfl
  rw [e3]
  refine gz h <| (ai) ?_ ?_ <;> clear h ac wo <;> intro ac wo h hc3
  · refine gz h <| (xo (hs := by exact bh uu254 uu3 rfl (r := (a.mag : Int)) (by rw [IntKind.wrap_i64]; omega))) <| (W) ?_; clear h ac wo; intro ac wo h
    exact (rt h) (h.retP rfl trivial)
  · have : decide ((a.mag : Int) ≤ 9223372036854775807) = true := decide_eq_true (by omega)
    rw [this, h1] at hc3; cases hc3
def fp (x : GR) : GR := ⟨aD x.p, x.r, !decide (x.r = oQ) && !x.neg⟩
theorem rE (x : GR) (k : Nat) (hk : k ≤ 40) (z : SzR k x) (w0 : World) : Calls Tryz.prog 254 #[vR x] w0 (dh w0 (vR (fp x)) (SzR k (fp x))) := by
 refine enter (N := 18) (args := [vR x]) Tryz.func254 rfl rfl ?_; intro ac h
 have c1 := cY x.p k hk z.1
 refine gz h <| (xb) fun b1 => (xa) fun b2 => (dr1 (H := [⟨.blk b2 (cR ⟨oQ, oQ, false⟩) 71, [(15, .con (.blk b2 (cR ⟨aD x.p, x.r, !decide (x.r = oQ) && !x.neg⟩) 71))]⟩, ⟨_, []⟩]) (hob := (oK c1) <| (oX (h := by exact fun _ => a6 (bA no exs rfl (v := vQ oQ) rfl))) <| (oX (h := by exact fun _ => a6 (bA uq exs rfl (v := vR ⟨aD x.p, x.r, !decide (x.r = oQ) && !x.neg⟩) rfl))) <| oE)) <| (W) ?_; clear h ac; intro ac wo h
 exact rtc 0 h (h.retP (u := vR (fp x)) rfl ⟨am (c1 w0), z.2⟩)
attribute [irreducible] fp
def fY (x : GR) : GI := aq (em (fp x))
def Sm (r : GQ) : Prop := r.num.mag < 4 ∧ r.den = ⟨false, 0⟩
def eN (p q r : GQ) : GR × Int :=
 bif decide (aw r < 0) then (⟨oQ, oQ, false⟩, 2)
 else bif (cr r).2 then (⟨an p (ak q (cr r).1), oQ, false⟩, 0)
 else (⟨p, ak (ak q q) r, decide (aw q < 0)⟩, 0)
theorem l7 (p q r : GQ) (k : Nat) (hk : k ≤ 10) (zp : SzQ (k + 6) p) (zq : SzQ (k + 6) q) (zr : SzQ (k + 6) r) (hr : Sm r) (z3 : SzQ 30 r) (w0 : World) : Calls Tryz.prog 143 #[vQ p, vQ q, vQ r] w0 (dh w0 (.tuple #[vR (eN p q r).1, .int .i64 (eN p q r).2]) (SzR k (eN p q r).1)) := by
 refine enter (N := 36) (args := [vQ p, vQ q, vQ r]) Tryz.func143 rfl rfl ?_; intro ac h
 have c1 := cH r
 have s1 := am (c1 w0)
 have c2 := mq r hr z3
 have s2 := am (c2 w0)
 refine gz h <| (xb) fun b1 => (xb) fun b2 => (xb) fun b3 => (xa) fun b4 => (xk c1) <| (ai) ?_ ?_ <;> clear h ac <;> intro ac wo h hc1
 ·
  have hd : eN p q r = (⟨oQ, oQ, false⟩, 2) := by unfold eN; rw [hc1]; rfl
  rw [hd]
  refine gz h <| (xo (hs := by exact bA uq exs rfl (v := vR ⟨oQ, oQ, false⟩) rfl)) <| (W) ?_; clear h ac wo; intro ac wo h
  exact rtc2 0 h (h.retP (u := .tuple #[vR ⟨oQ, oQ, false⟩, .int .i64 2]) rfl ⟨⟨cw 0 (by decide) og, cw 0 (by decide) og⟩, ⟨cw 0 (by decide) og, cw 0 (by decide) og⟩⟩)
 ·
  refine gz h <| (xk c2) <| (xa) fun b5 => (ai) ?_ ?_ <;> clear h ac wo <;> intro ac wo h hc2
  ·
   have hd : eN p q r = (⟨an p (ak q (cr r).1), oQ, false⟩, 0) := by unfold eN; rw [hc1, hc2]; rfl
   rw [hd]
   have c3 := be q (cr r).1 (k + 4) og zq (bQ s2 og)
   have s3 := am (c3 w0)
   have c4 := bt p (ak q (cr r).1) (k + 1) og (bQ zp og) s3
   have s4 := am (c4 w0)
   refine gz h <| (dr1 (H := [⟨_, []⟩, ⟨.blk b4 (cR ⟨oQ, oQ, false⟩) 71, [(6, .con (.blk b4 (cR ⟨an p (ak q (cr r).1), oQ, false⟩) 71))]⟩, ⟨_, []⟩, ⟨_, []⟩, ⟨_, []⟩]) (hob := (oK c3) <| (oK c4) <| (oX (h := by exact fun _ => a6 (bA uq exs rfl (v := vR ⟨an p (ak q (cr r).1), oQ, false⟩) rfl))) <| oE)) <| (W) ?_; clear h ac wo; intro ac wo h
   exact rtc2 1 h (h.retP (u := .tuple #[vR ⟨an p (ak q (cr r).1), oQ, false⟩, .int .i64 0]) rfl ⟨bQ s4 og, ⟨cw 0 (by decide) og, cw 0 (by decide) og⟩⟩)
  ·
   have hd : eN p q r = (⟨p, ak (ak q q) r, decide (aw q < 0)⟩, 0) := by unfold eN; rw [hc1, hc2]; rfl
   rw [hd]
   have c3 := be q q (k + 4) og zq zq
   have s3 := am (c3 w0)
   have c4 := be (ak q q) r (k + 2) og s3 (bQ zr og)
   have s4 := am (c4 w0)
   have c5 := cH q
   refine gz h <| (dr1 (H := [⟨_, []⟩, ⟨.blk b4 (cR ⟨oQ, oQ, false⟩) 71, [(10, .con (.blk b4 (cR ⟨p, ak (ak q q) r, decide (aw q < 0)⟩) 71))]⟩, ⟨_, []⟩, ⟨_, []⟩, ⟨_, []⟩]) (hob := (oK c3) <| (oK c4) <| (oK c5) <| (oX (h := by exact fun _ => a6 (bA uq exs rfl (v := vR ⟨p, ak (ak q q) r, decide (aw q < 0)⟩) rfl))) <| oE)) <| (W) ?_; clear h ac wo; intro ac wo h
   exact rtc2 1 h (h.retP (u := .tuple #[vR ⟨p, ak (ak q q) r, decide (aw q < 0)⟩, .int .i64 0]) rfl ⟨bQ zp og, bQ s4 og⟩)
attribute [irreducible] eN
theorem qe (x : GR) (hf : ∀ w0, Calls Tryz.prog 187 #[vR (fp x)] w0 (dh w0 (vI (em (fp x))) (SzI 40 (em (fp x))))) (z : SzR 36 x) (w0 : World) : Calls Tryz.prog 188 #[vR x] w0 (dh w0 (vI (fY x)) (SzI 40 (fY x))) := by
 refine enter (N := 7) (args := [vR x]) Tryz.func188 rfl rfl ?_; intro ac h
 have c1 := rE x 36 og z
 have c3 := dM (em (fp x)) 40 og (am (hf w0))
 refine gz h <| (xb) fun b1 => (xa) fun b2 => (xk c1) <| (xk hf) <| (xk c3) <| (W) ?_; clear h ac; intro ac wo h
 exact rtc 0 h (h.retP (u := vI (fY x)) rfl (am (c3 w0)))
end Go.Sx
namespace Go.Sx
open Go Go.RowKit Go.Proofs
set_option maxRecDepth 100000
set_option maxHeartbeats 40000000
attribute [local irreducible] Code.wp wpList Rd Step ObS Ent
attribute [local irreducible] ao aN ah aw ay bP
def bK (a : Bd) (b : Bd) : Iv :=
 (⟨a.at_, b.at_, a.behind, (!b.behind)⟩ : Iv)
theorem jh (a : Bd) (b : Bd) (za : SzW 30 a) (zb : SzW 30 b) (w0 : World)  : Calls Tryz.prog 247 #[(vW a), (vW b)] w0 (dh w0 (vV (bK a b)) (SzV 30 (bK a b))) := by
 refine enter (N := 15) (args := [(vW a), (vW b)]) Tryz.func247 rfl rfl ?_; intro ac h
 refine gz h <| (xb) fun b1 => (xb) fun b2 => (xa) fun b3 => (xo (hs := by exact bA lE exs rfl (v := (vV (⟨a.at_, b.at_, a.behind, (!b.behind)⟩ : Iv))) rfl)) <| (W) ?_; clear h ac; intro ac wo h
 exact ret h rfl (.cell (v := (vV (⟨a.at_, b.at_, a.behind, (!b.behind)⟩ : Iv))) rfl (i := 0) rfl Tryz.isAgg86 Tryz.sizeOf86 rfl rfl rfl .nil) rfl (h.retP (by unfold bK; rfl) (by unfold bK; exact ⟨za, zb⟩))
attribute [irreducible] bK
def bJ (x : Ev) (y : Ev) : Int :=
 (bE x.at_ y.at_)
theorem gQ (x : Ev) (y : Ev) (zx : SzE 30 x) (zy : SzE 30 y) (w0 : World)  : Calls Tryz.prog 246 #[(vE x), (vE y)] w0 (dh w0 (.int .i64 (bJ x y)) ((-1 ≤ (bJ x y) ∧ (bJ x y) ≤ 1))) := by
 refine enter (N := 10) (args := [(vE x), (vE y)]) Tryz.func246 rfl rfl ?_; intro ac h
 have c1 := gU x.at_ y.at_ zx zy
 have s1 := Calls.pr (c1 w0)
 have p2 := s1
 refine gz h <| (xb) fun b1 => (xb) fun b2 => (xk (c1)) <| (W) ?_; clear h ac; intro ac wo h
 exact (rt h) (h.retP (by unfold bJ; rfl) (by unfold bJ; exact og))
attribute [irreducible] bJ
def cM (a : Bool) (b : Bool) : Bool :=
 (a && b)
theorem jX (a : Bool) (b : Bool) (w0 : World)  : Calls Tryz.prog 243 #[(.bool a), (.bool b)] w0 (dh w0 (.bool (cM a b)) (True)) := by
 refine enter (N := 9) (args := [(.bool a), (.bool b)]) Tryz.func243 rfl rfl ?_; intro ac h
 refine gz h <| (W) ?_; clear h ac; intro ac wo h
 exact (rt h) (h.retP (by unfold cM; rfl) trivial)
attribute [irreducible] cM
def fV (data : List Ev) (a : Nat) (b : Nat) (i : Nat) (data1 : List Ev) : List Ev :=
 data1
def fU (data : List Ev) (a : Nat) (b : Nat) (i : Nat) (data1 : List Ev) (j : Nat) (data2 : List Ev) : Nx (Nat × (List Ev)) (List Ev) :=
 .go ((i + 1), data2)
def dD (data : List Ev) (a : Nat) (b : Nat) (i : Nat) (data1 : List Ev) (j : Nat) (data2 : List Ev) : Nx (Nat × (List Ev)) (List Ev) :=
 bif ((decide (((j : Nat) : Int) > ((a : Nat) : Int))) && (decide ((bJ (gt data2 j) (gt data2 (j - 1))) < 0))) then
  .go ((j - 1), ((data2.set j (gt data2 (j - 1))).set (j - 1) (gt data2 j)))
 else
  .out (j, data2)
def dE (data : List Ev) (a : Nat) (b : Nat) (i : Nat) (data1 : List Ev) : Nx (Nat × (List Ev)) (List Ev) :=
 bif (decide (((i : Nat) : Int) < ((b : Nat) : Int))) then
  fin (dZ (fun s => dD data a b i data1 s.1 s.2) (i + 1) (i, data1)) (fun s => fU data a b i data1 s.1 s.2) (fun r => .ret r)
 else
  .out (i, data1)
def bm (data : List Ev) (a : Nat) (b : Nat) : List Ev :=
 fin (dZ (fun s => dE data a b s.1 s.2) ((b + 1 - (a + 1)) + 1) ((a + 1), data)) (fun s => fV data a b s.1 s.2) (fun r => r)
theorem fT (data : List Ev) (datav : Value) (a : Nat) (b : Nat) (hab : a ≤ b) (hb : b ≤ data.length) (hb2 : b ≤ 1000) (zdata : All (SzE 30) data) (w0 w : World) (B : Asn) (hbel : Below w0.heap.size w0 w) (hsep : ∃ Z_, Sep w0.heap.size w [.row (α := Ev) 321 datav data, B] Z_)  : Calls Tryz.prog 297 #[datav, (.int .i64 ((a : Nat) : Int)), (.int .i64 ((b : Nat) : Int)), (.func (.func 246) #[] #[])] w (RetY w0 (fun v => v = .tuple #[] ∧ (All (SzE 30) (bm data a b) ∧ (bm data a b).length = data.length)) (fun v => [.row (α := Ev) 321 datav (bm data a b), B])) := by
 refine mi (N := 53) (args := [datav, (.int .i64 ((a : Nat) : Int)), (.int .i64 ((b : Nat) : Int)), (.func (.func 246) #[] #[])]) Tryz.func297 rfl rfl hbel hsep ?_; intro ac h
 have hlendata := h.len 0 rfl
 obtain ⟨X1, hX1⟩ : ∃ X, dZ (fun s => dE data a b s.1 s.2) ((b + 1 - (a + 1)) + 1) ((a + 1), data) = X := ⟨_, rfl⟩
 refine gz h <| (W) ?_; clear h ac; intro ac wo h
 refine wp_loop_ghost (fun n_ a_ w_ => ∃ (i : Nat) (data1 : List Ev), ((b + 1 - i) < n_) ∧ (dZ (fun s => dE data a b s.1 s.2) n_ (i, data1) = X1) ∧ (i ≤ b + 1) ∧ (All (SzE 30) data1) ∧ (data1.length = data.length) ∧ St w0 53 [(0, datav), (1, (.int .i64 ((a : Nat) : Int))), (2, (.int .i64 ((b : Nat) : Int))), (3, (.func (.func 246) #[] #[])), (8, (.int .i64 ((i : Nat) : Int)))] [.row (α := Ev) 321 datav data1, B] a_ w_) ((b + 1 - (a + 1)) + 1) ⟨(a + 1), data, og, hX1, og, zdata, og, h.rs⟩ ?_
 clear h ac wo; rintro n1 ac wo ⟨i, data1, hm1, hL1, hi, zdata1, hdl, h⟩
 obtain ⟨m1, rfl⟩ : ∃ m, n1 = m + 1 := ⟨n1 - 1, by omega⟩
 refine gz h <| (ai) ?_ ?_ <;> clear h ac wo <;> intro ac wo h hc1
 ·
  have hd1 := of_decide_eq_true hc1
  obtain ⟨X2, hX2⟩ : ∃ X, dZ (fun s => dD data a b i data1 s.1 s.2) (i + 1) (i, data1) = X := ⟨_, rfl⟩
  refine gz h <| (W) ?_; clear h ac wo; intro ac wo h
  refine wp_loop_ghost (fun n_ a_ w_ => ∃ (j : Nat) (data2 : List Ev), (j < n_) ∧ (dZ (fun s => dD data a b i data1 s.1 s.2) n_ (j, data2) = X2) ∧ (All (SzE 30) data2) ∧ (j ≤ i) ∧ (data2.length = data.length) ∧ St w0 53 [(0, datav), (1, (.int .i64 ((a : Nat) : Int))), (2, (.int .i64 ((b : Nat) : Int))), (3, (.func (.func 246) #[] #[])), (8, (.int .i64 ((i : Nat) : Int))), (9, (.int .i64 ((j : Nat) : Int)))] [.row (α := Ev) 321 datav data2, B] a_ w_) (i + 1) ⟨i, data1, og, hX2, zdata1, og, og, h.rs⟩ ?_
  clear h ac wo; rintro n2 ac wo ⟨j, data2, hm2, hL2, zdata2, hj, hdl2, h⟩
  obtain ⟨m2, rfl⟩ : ∃ m, n2 = m + 1 := ⟨n2 - 1, by omega⟩
  refine gz h <| (W) ?_; clear h ac wo; intro ac wo h
  have s1 := Calls.pr ((fun w_ hB_ hS_ => gQ (gt data2 j) (gt data2 (j - 1)) (All.gt zdata2 (rk _)) (All.gt zdata2 (rk _)) w_ ) _ h.bel h.sep)
  have p2 := s1
  refine gz h <| (dr0 (hob := (oG (by exact fun hg => gQ (gt data2 j) (gt data2 (j - 1)) (All.gt zdata2 (rk _)) (All.gt zdata2 (rk _)))) <| oE)) <| (ai) ?_ ?_ <;> clear h ac wo <;> intro ac wo h hc2
  ·
   have hq2 := hc2; try simp at hq2
   refine gz h <| (dr1 (H := [⟨.row (α := Ev) 321 datav data2, [(15, .con (.row (α := Ev) 321 datav (data2.set j (gt data2 (j - 1))))), (17, .con (.row (α := Ev) 321 datav ((data2.set j (gt data2 (j - 1))).set (j - 1) (gt data2 j))))]⟩, ⟨_, []⟩]) (hob := (oY (h := by exact fun _ => kX (acc := [0]) _ [.row (α := Ev) 321 datav (data2.set j (gt data2 (j - 1)))] rfl rfl (gm (k := 0) (u' := (gt data2 (j - 1))) zz321 (mh og) rfl (Nat.add_zero _) rfl rfl rfl rfl rfl rfl))) <| (oY (h := by exact fun _ => kX (acc := [0]) _ [.row (α := Ev) 321 datav ((data2.set j (gt data2 (j - 1))).set (j - 1) (gt data2 j))] rfl rfl (gm (k := 0) (u' := (gt data2 j)) zz321 (mh og) rfl (Nat.add_zero _) rfl rfl rfl rfl rfl rfl))) <| oE)) <| (W) ?_; clear h ac wo; intro ac wo h
   have hg := eK hL2 pt
   exact aK ⟨m2, og, _, _, og, hg, (All.set (All.set zdata2 (All.gt zdata2 (rk _))) (All.gt zdata2 (rk _))), og, og, h.re [0, 1]⟩
  ·
   have hq2 := hc2; try simp at hq2
   have hx2 := g8 hL2 pt
   refine gz h <| (W) ?_; clear h ac wo; intro ac wo h
   have hg := eK hL1 pt
   exact aK ⟨m1, og, _, _, og, hg, og, zdata2, og, h.re [0, 1]⟩
 ·
  have hd1 := of_decide_eq_false hc1
  have hx1 := g8 hL1 pt
  have hd : bm data a b = data1 := pt
  refine gz h <| (W) ?_; clear h ac wo; intro ac wo h
  exact retN (vs := []) h rfl .nil rfl ((h.pick [0, 1] (by decide)).retY ⟨rfl, (by rw [hd]; exact ⟨zdata1, og⟩)⟩ (by rw [hd]; rfl))
attribute [irreducible] bm
def dP (a : Bool) (b : Bool) : Bool :=
 (a || b)
theorem lO (a : Bool) (b : Bool) (w0 : World)  : Calls Tryz.prog 244 #[(.bool a), (.bool b)] w0 (dh w0 (.bool (dP a b)) (True)) := by
 refine enter (N := 9) (args := [(.bool a), (.bool b)]) Tryz.func244 rfl rfl ?_; intro ac h
 refine gz h <| (W) ?_; clear h ac; intro ac wo h
 exact (rt h) (h.retP (by unfold dP; rfl) trivial)
attribute [irreducible] dP
def dQ (a : Bool) (b : Bool) : Bool :=
 (a && (!b))
theorem lP (a : Bool) (b : Bool) (w0 : World)  : Calls Tryz.prog 181 #[(.bool a), (.bool b)] w0 (dh w0 (.bool (dQ a b)) (True)) := by
 refine enter (N := 10) (args := [(.bool a), (.bool b)]) Tryz.func181 rfl rfl ?_; intro ac h
 refine gz h <| (W) ?_; clear h ac; intro ac wo h
 exact (rt h) (h.retP (by unfold dQ; rfl) trivial)
attribute [irreducible] dQ
end Go.Sx
namespace Go.Sx
open Go Go.RowKit Go.Proofs
set_option maxRecDepth 100000
set_option maxHeartbeats 40000000
attribute [local irreducible] Code.wp wpList Rd Step ObS Ent
attribute [local irreducible] ao aN ah aw ay bP
def bL (data : List Ev) (a : Nat) (b : Nat) (limit : Int) : List Ev :=
 (bm data a b)
theorem ig (data : List Ev) (datav : Value) (a : Nat) (b : Nat) (limit : Int) (hab : a ≤ b) (hb : b ≤ data.length) (hb2 : b ≤ 1000) (h12 : b ≤ a + 12) (zdata : All (SzE 30) data) (w0 w : World) (B : Asn) (hbel : Below w0.heap.size w0 w) (hsep : ∃ Z_, Sep w0.heap.size w [.row (α := Ev) 321 datav data, B] Z_)  : Calls Tryz.prog 284 #[datav, (.int .i64 ((a : Nat) : Int)), (.int .i64 ((b : Nat) : Int)), (.int .i64 limit), (.func (.func 246) #[] #[])] w (RetY w0 (fun v => v = .tuple #[] ∧ (All (SzE 30) (bL data a b limit) ∧ (bL data a b limit).length = data.length)) (fun v => [.row (α := Ev) 321 datav (bL data a b limit), B])) := by
 refine mi (N := 148) (args := [datav, (.int .i64 ((a : Nat) : Int)), (.int .i64 ((b : Nat) : Int)), (.int .i64 limit), (.func (.func 246) #[] #[])]) Tryz.func284 rfl rfl hbel hsep ?_; intro ac h
 have hlendata := h.len 0 rfl
 refine gz h <| (W) ?_; clear h ac; intro ac wo h
 refine pO 1 ?_
 refine gz h <| (xo (hs := by exact fQ rfl rfl (r := (((b - a) : Nat) : Int)) (by rw [IntKind.wrap_i64]; first | omega | grind))) <| (W) ?_; clear h ac wo; intro ac wo h
 refine c_ifT h rfl ?_ (decide_eq_true og)
 refine gz h <| (W) ?_; clear h ac wo; intro ac wo h
 refine on1 h 0 rfl (tN (vs := [datav, (.int .i64 ((a : Nat) : Int)), (.int .i64 ((b : Nat) : Int)), (.func (.func 246) #[] #[])]) (A := fun v => [.row (α := Ev) 321 datav (bm data a b)]) (cP Tryz.call297 rfl) (fun w_ B_ hB_ hS_ => fT data datav a b og og og zdata w0 w_ B_ hB_ hS_ )) rfl ?_; clear h ac wo; intro vc ac wo s2 h
 obtain rfl : vc = _ := s2.1
 have p3 := s2.2.2
 refine gz h <| (W) ?_; clear h ac wo; intro ac wo h
 replace h := h.sub (F' := []) trivial
 have hd : bL data a b limit = (bm data a b) := rfl
 refine gz h <| (W) ?_; clear h ac wo; intro ac wo h
 exact ret (vs := []) h rfl .nil rfl ((h.pick [0, 1] (by decide)).retY ⟨rfl, (by rw [hd]; exact ⟨s2.2.1, og⟩)⟩ (by rw [hd]; rfl))
attribute [irreducible] bL
end Go.Sx
namespace Go.Sx
open Go Go.RowKit Go.Proofs
set_option maxRecDepth 100000
set_option maxHeartbeats 40000000
attribute [local irreducible] Code.wp wpList Rd Step ObS Ent
attribute [local irreducible] ao aN ah aw ay bP
def eP (x : Nat) : Int :=
 ((Lib.bitLen x : Nat) : Int)
theorem ms (x : Nat) (hx : x < 18446744073709551616) (w0 : World)  : Calls Tryz.prog 285 #[(.int .u64 ((x : Nat) : Int))] w0 (dh w0 (.int .i64 (eP x)) (True)) := by
 refine enter (N := 8) (args := [(.int .u64 ((x : Nat) : Int))]) Tryz.func285 rfl rfl ?_; intro ac h
 refine gz h <| (W) ?_; clear h ac; intro ac wo h
 refine xd h rfl ?_
 refine gz h <| (xk (tz x (by assumption))) <| (W) ?_; clear h ac wo; intro ac wo h
 exact (rt h) (h.retP (by unfold eP; rfl) trivial)
attribute [irreducible] eP
def bM (x : List Ev) : List Ev :=
 (bL x 0 x.length (eP x.length))
theorem ii (x : List Ev) (xv : Value) (hl : x.length ≤ 12) (zx : All (SzE 30) x) (w0 w : World) (B : Asn) (hbel : Below w0.heap.size w0 w) (hsep : ∃ Z_, Sep w0.heap.size w [.row (α := Ev) 321 xv x, B] Z_)  : Calls Tryz.prog 245 #[xv, (.func (.func 246) #[] #[])] w (RetY w0 (fun v => v = .tuple #[] ∧ (All (SzE 30) (bM x) ∧ (bM x).length = x.length)) (fun v => [.row (α := Ev) 321 xv (bM x), B])) := by
 refine mi (N := 14) (args := [xv, (.func (.func 246) #[] #[])]) Tryz.func245 rfl rfl hbel hsep ?_; intro ac h
 have hlenx := h.len 0 rfl
 refine gz h <| (xo (hs := by exact bh uu3 Tryz.runUnderlying276 rfl (r := ((x.length : Nat) : Int)) (by rw [IntKind.wrap_u64]; first | omega | grind))) <| (xk (ms x.length og)) <| (W) ?_; clear h ac; intro ac wo h
 refine on1 h 0 rfl (tN (vs := [xv, (.int .i64 0), (.int .i64 ((x.length : Nat) : Int)), (.int .i64 (eP x.length)), (.func (.func 246) #[] #[])]) (A := fun v => [.row (α := Ev) 321 xv (bL x 0 x.length (eP x.length))]) (cP Tryz.call284 rfl) (fun w_ B_ hB_ hS_ => ig x xv 0 x.length (eP x.length) og og og og zx w0 w_ B_ hB_ hS_ )) rfl ?_; clear h ac wo; intro vc ac wo s2 h
 obtain rfl : vc = _ := s2.1
 have p3 := s2.2.2
 have hd : bM x = (bL x 0 x.length (eP x.length)) := rfl
 refine gz h <| (W) ?_; clear h ac wo; intro ac wo h
 exact retN (vs := []) h rfl .nil rfl ((h.pick [0, 1] (by decide)).retY ⟨rfl, (by rw [hd]; exact ⟨s2.2.1, og⟩)⟩ (by rw [hd]; rfl))
attribute [irreducible] bM
end Go.Sx
namespace Go.Sx
def kB [K : Key] (b : Bd) : Nat := 2 * tk b.at_ + (bif b.behind then 1 else 0)
theorem bb (b : Bool) : (bif b then 1 else 0 : Nat) ≤ 1 := by cases b <;> decide
theorem cmpB [K : Key] {a b : Bd} (ha : Tm a.at_) (hb : Tm b.at_) : bE a b = sgn (kB a) (kB b) := by
  unfold bE kB
  rw [ha.cmp hb]
  have h1 := bb a.behind
  have h2 := bb b.behind
  rcases Nat.lt_trichotomy (tk a.at_) (tk b.at_) with e | e | e
  · rw [i9 e, i9 (by omega)]; rfl
  · rw [e, f7]
    cases a.behind <;> cases b.behind
    · rw [f7]; rfl
    · rw [i9 (by simp)]; rfl
    · rw [jB (by simp)]; rfl
    · rw [f7]; rfl
  · rw [jB e, jB (by omega)]; rfl
theorem kB_inj [K : Key] {a b : Bd} (ha : Tm a.at_) (hb : Tm b.at_) (h : kB a = kB b) : a = b := by
  unfold kB at h
  have h1 := bb a.behind
  have h2 := bb b.behind
  have e : tk a.at_ = tk b.at_ := by omega
  have e2 := (ha.inj hb).1 e
  have e3 : a.behind = b.behind := by
    rw [e] at h
    cases ha : a.behind <;> cases hb : b.behind <;> rw [ha, hb] at h <;> simp at h <;> rfl
  obtain ⟨x, y⟩ := a
  obtain ⟨z, w⟩ := b
  simp only at e2 e3
  rw [e2, e3]
theorem pf (i : Iv) : aJ i = ⟨i.lo, i.openLo⟩ := by unfold aJ; rfl
theorem pl (i : Iv) : aE i = ⟨i.hi, !i.openHi⟩ := by unfold aE; rfl
theorem ki [K : Key] (i : Iv) : kB (aJ i) = eI i := by rw [pf]; rfl
theorem kE [K : Key] (i : Iv) : (kB (aE i) : Int) = eR i + 1 := by
  unfold kB aE eR
  simp only
  cases i.openHi <;> simp <;> omega
theorem Wv.bd [K : Key] {i : Iv} (h : Wv i) : kB (aJ i) < kB (aE i) := by
  have h1 := h.le
  have h2 := kE i
  rw [ki]; omega
theorem wv_of [K : Key] {i : Iv} (h : Tv i) (hlt : kB (aJ i) < kB (aE i)) : Wv i := by
  rw [pf, pl] at hlt
  have hlt : 2 * tk i.lo + (bif i.openLo then 1 else 0) < 2 * tk i.hi + (bif !i.openHi then 1 else 0) := hlt
  have h1 := bb i.openLo
  have h2 := bb (!i.openHi)
  refine ⟨h, by omega, fun e => ?_⟩
  rw [e] at hlt
  revert hlt
  cases i.openLo <;> cases i.openHi <;> simp
theorem pJ (a b : Bd) : aJ (bK a b) = a := by
  unfold aJ bK; rfl
theorem si (a b : Bd) : aE (bK a b) = b := by
  unfold aE bK
  simp only [Bool.not_not]
theorem iv_ext [K : Key] {i j : Iv} (hi : Tv i) (hj : Tv j) (h1 : kB (aJ i) = kB (aJ j)) (h2 : kB (aE i) = kB (aE j)) : i = j := by
  have e1 := kB_inj (a := aJ i) (b := aJ j) (by rw [pf]; exact hi.1) (by rw [pf]; exact hj.1) h1
  have e2 := kB_inj (a := aE i) (b := aE j) (by rw [pl]; exact hi.2) (by rw [pl]; exact hj.2) h2
  rw [pf, pf, Bd.mk.injEq] at e1
  rw [pl, pl, Bd.mk.injEq] at e2
  obtain ⟨lo, hi', ol, oh⟩ := i
  obtain ⟨lo2, hi2, ol2, oh2⟩ := j
  simp only at e1 e2
  obtain ⟨rfl, rfl⟩ := e1
  obtain ⟨rfl, e3⟩ := e2
  rw [show oh = oh2 by cases oh <;> cases oh2 <;> first | rfl | cases e3]
end Go.Sx
namespace Go.Sx
def inI [K : Key] (i : Iv) (x : Nat) : Prop := kB (aJ i) ≤ x ∧ x < kB (aE i)
def inP [K : Key] (p : List Iv) (x : Nat) : Prop := ∃ i ∈ p, inI i x
structure Cn [K : Key] (p : List Iv) : Prop where
  wv : ∀ i ∈ p, Wv i
  sep : p.Pairwise fun i j => kB (aE i) < kB (aJ j)
theorem kG [K : Key] (x : Nat) : ¬ inP [] x := fun ⟨_, h, _⟩ => by cases h
theorem dC [K : Key] {i : Iv} {p : List Iv} {x : Nat} : inP (i :: p) x ↔ inI i x ∨ inP p x := by
  constructor
  · rintro ⟨j, hj, h⟩
    rcases List.mem_cons.1 hj with rfl | hj
    · exact .inl h
    · exact .inr ⟨j, hj, h⟩
  · rintro (h | ⟨j, hj, h⟩)
    · exact ⟨i, List.mem_cons_self .., h⟩
    · exact ⟨j, List.mem_cons_of_mem _ hj, h⟩
theorem inP_app [K : Key] {p q : List Iv} {x : Nat} : inP (p ++ q) x ↔ inP p x ∨ inP q x := by
  constructor
  · rintro ⟨j, hj, h⟩
    rcases List.mem_append.1 hj with hj | hj
    · exact .inl ⟨j, hj, h⟩
    · exact .inr ⟨j, hj, h⟩
  · rintro (⟨j, hj, h⟩ | ⟨j, hj, h⟩)
    · exact ⟨j, List.mem_append_left _ hj, h⟩
    · exact ⟨j, List.mem_append_right _ hj, h⟩
theorem Cn.nil [K : Key] : Cn [] := ⟨fun _ h => (by cases h), List.Pairwise.nil⟩
theorem Cn.tail [K : Key] {i : Iv} {p : List Iv} (h : Cn (i :: p)) : Cn p ∧ (∀ j ∈ p, kB (aE i) < kB (aJ j)) ∧ Wv i := by
  have h2 := List.pairwise_cons.1 h.sep
  exact ⟨⟨fun j hj => h.wv j (List.mem_cons_of_mem _ hj), h2.2⟩, h2.1, h.wv i (List.mem_cons_self ..)⟩
theorem Cn.behind [K : Key] {i : Iv} {p : List Iv} (h : Cn (i :: p)) {x : Nat} (hx : inP p x) : kB (aE i) < x := by
  obtain ⟨j, hj, h1, _⟩ := hx
  have := h.tail.2.1 j hj
  omega
theorem Cn.ext [K : Key] : ∀ {p q : List Iv}, Cn p → Cn q → (∀ x, inP p x ↔ inP q x) → p = q
  | [], [], _, _, _ => rfl
  | [], j :: q, _, hq, h => absurd ((h _).2 (dC.2 (.inl ⟨Nat.le_refl _, (hq.tail.2.2).bd⟩))) (kG _)
  | i :: p, [], hp, _, h => absurd ((h _).1 (dC.2 (.inl ⟨Nat.le_refl _, (hp.tail.2.2).bd⟩))) (kG _)
  | i :: p, j :: q, hp, hq, h => by
    have wi := hp.tail.2.2
    have wj := hq.tail.2.2
    have bi := wi.bd
    have bj := wj.bd
    have f1 : kB (aJ j) ≤ kB (aJ i) := by
      rcases dC.1 ((h _).1 (dC.2 (.inl ⟨Nat.le_refl _, bi⟩))) with h1 | h1
      · exact h1.1
      · have := hq.behind h1; omega
    have f2 : kB (aJ i) ≤ kB (aJ j) := by
      rcases dC.1 ((h _).2 (dC.2 (.inl ⟨Nat.le_refl _, bj⟩))) with h1 | h1
      · exact h1.1
      · have := hp.behind h1; omega
    have l1 : ¬ kB (aE i) < kB (aE j) := fun hl => by
      rcases dC.1 ((h (kB (aE i))).2 (dC.2 (.inl ⟨by omega, hl⟩))) with h1 | h1
      · have := h1.2; omega
      · have := hp.behind h1; omega
    have l2 : ¬ kB (aE j) < kB (aE i) := fun hl => by
      rcases dC.1 ((h (kB (aE j))).1 (dC.2 (.inl ⟨by omega, hl⟩))) with h1 | h1
      · have := h1.2; omega
      · have := hq.behind h1; omega
    have e : i = j := iv_ext wi.1 wj.1 (by omega) (by omega)
    subst e
    rw [Cn.ext hp.tail.1 hq.tail.1 fun x => ⟨fun hx => ?_, fun hx => ?_⟩]
    · rcases dC.1 ((h x).1 (dC.2 (.inr hx))) with h1 | h1
      · have := hp.behind hx; have := h1.2; omega
      · exact h1
    · rcases dC.1 ((h x).2 (dC.2 (.inr hx))) with h1 | h1
      · have := hq.behind hx; have := h1.2; omega
      · exact h1
def sm [K : Key] (c : Ev → Int) : List Ev → Nat → Int
  | [], _ => 0
  | e :: r, x => (if kB e.at_ ≤ x then c e else 0) + sm c r x
def rs (c : Ev → Int) : List Ev → Int
  | [] => 0
  | e :: r => c e + rs c r
variable {c : Ev → Int}
theorem uV [K : Key] (a b : List Ev) (x : Nat) : sm c (a ++ b) x = sm c a x + sm c b x := by
  induction a with
  | nil => show sm c b x = 0 + sm c b x; omega
  | cons e a ih => show (if kB e.at_ ≤ x then c e else 0) + sm c (a ++ b) x = (if kB e.at_ ≤ x then c e else 0) + sm c a x + sm c b x; rw [ih]; omega
theorem sE (a b : List Ev) : rs c (a ++ b) = rs c a + rs c b := by
  induction a with
  | nil => show rs c b = 0 + rs c b; omega
  | cons e a ih => show c e + rs c (a ++ b) = c e + rs c a + rs c b; rw [ih]; omega
theorem uU [K : Key] {a b : List Ev} (h : a.Perm b) (x : Nat) : sm c a x = sm c b x := by
  induction h with
  | nil => rfl
  | cons e _ ih => show _ + _ = _ + _; rw [ih]
  | swap e e' l => show (if kB e'.at_ ≤ x then c e' else 0) + ((if kB e.at_ ≤ x then c e else 0) + sm c l x) = (if kB e.at_ ≤ x then c e else 0) + ((if kB e'.at_ ≤ x then c e' else 0) + sm c l x); omega
  | trans _ _ h1 h2 => rw [h1, h2]
theorem vg {a b : List Ev} (h : a.Perm b) : rs c a = rs c b := by
  induction h with
  | nil => rfl
  | cons e _ ih => show _ + _ = _ + _; rw [ih]
  | swap e e' l => show c e' + (c e + rs c l) = c e + (c e' + rs c l); omega
  | trans _ _ h1 h2 => rw [h1, h2]
theorem uW [K : Key] {a : List Ev} {x : Nat} (h : ∀ e ∈ a, kB e.at_ ≤ x) : sm c a x = rs c a := by
  induction a with
  | nil => rfl
  | cons e a ih =>
    show (if kB e.at_ ≤ x then c e else 0) + sm c a x = c e + rs c a
    rw [if_pos (h e (List.mem_cons_self ..)), ih fun e' he => h e' (List.mem_cons_of_mem _ he)]
theorem ry [K : Key] {a : List Ev} {x : Nat} (h : ∀ e ∈ a, x < kB e.at_) : sm c a x = 0 := by
  induction a with
  | nil => rfl
  | cons e a ih =>
    show (if kB e.at_ ≤ x then c e else 0) + sm c a x = 0
    rw [if_neg (by have := h e (List.mem_cons_self ..); omega), ih fun e' he => h e' (List.mem_cons_of_mem _ he)]
    rfl
def far [K : Key] : List Ev → Nat
  | [] => 0
  | e :: r => kB e.at_ + far r
theorem wC [K : Key] : ∀ {a : List Ev}, ∀ e ∈ a, kB e.at_ ≤ far a
  | [], _, h => by cases h
  | e' :: a, e, h => by
    rcases List.mem_cons.1 h with rfl | h
    · exact Nat.le_add_right _ _
    · exact Nat.le_trans (wC e h) (Nat.le_add_left _ _)
def nxe (e : Ev) : List Ev → Bool
  | [] => false
  | e2 :: _ => bE e.at_ e2.at_ == 0
def swS (keep : Bool → Bool → Bool) : List Ev → List Iv → Bool → Bd → Int → Int → List Iv
  | [], out, _, _, _, _ => out
  | e :: r, out, in_, fr, n0, n1 =>
    bif (nxe e r) then swS keep r out in_ fr (n0 + e.b0) (n1 + e.b1)
    else bif (keep (decide (n0 + e.b0 > 0)) (decide (n1 + e.b1 > 0))) && !in_ then swS keep r out (keep (decide (n0 + e.b0 > 0)) (decide (n1 + e.b1 > 0))) e.at_ (n0 + e.b0) (n1 + e.b1)
    else bif (!(keep (decide (n0 + e.b0 > 0)) (decide (n1 + e.b1 > 0)))) && in_ then swS keep r (out ++ [bK fr e.at_]) (keep (decide (n0 + e.b0 > 0)) (decide (n1 + e.b1 > 0))) fr (n0 + e.b0) (n1 + e.b1)
    else swS keep r out (keep (decide (n0 + e.b0 > 0)) (decide (n1 + e.b1 > 0))) fr (n0 + e.b0) (n1 + e.b1)
theorem eqz [K : Key] {a b : Bd} (ha : Tm a.at_) (hb : Tm b.at_) : (bE a b == 0) = decide (kB a = kB b) := by
  rw [cmpB ha hb]
  by_cases e : kB a = kB b
  · rw [e, f7, decide_eq_true rfl]; rfl
  · rw [decide_eq_false e]
    exact beq_eq_false_iff_ne.2 fun h => e (sgn_zero.1 h)
theorem not_in [K : Key] {out : List Iv} {y x : Nat} (h : ∀ i ∈ out, kB (aE i) < y) (hx : y ≤ x) : ¬ inP out x := fun ⟨i, hi, _, h2⟩ => by have := h i hi; omega
def b0c : Ev → Int := fun e => e.b0
def b1c : Ev → Int := fun e => e.b1
theorem uN [K : Key] {keep : Bool → Bool → Bool} {S : List Ev} (hT : ∀ e ∈ S, Tm e.at_.at_) (hs : S.Pairwise fun a b => kB a.at_ ≤ kB b.at_) (hend : keep (decide (rs b0c S > 0)) (decide (rs b1c S > 0)) = false) :
    ∀ (s p : List Ev) (out : List Iv) (in_ : Bool) (fr : Bd) (n0 n1 : Int), S = p ++ s → n0 = rs b0c p → n1 = rs b1c p →
      (∀ x, (∀ e ∈ s, x < kB e.at_) → ((inP out x ∨ (in_ = true ∧ kB fr ≤ x)) ↔ keep (decide (sm b0c S x > 0)) (decide (sm b1c S x > 0)) = true)) →
      Cn out → (∀ i ∈ out, ∀ e ∈ s, kB (aE i) < kB e.at_) →
      (in_ = true → Tm fr.at_ ∧ (∀ e ∈ s, kB fr < kB e.at_) ∧ ∀ i ∈ out, kB (aE i) < kB fr) →
      Cn (swS keep s out in_ fr n0 n1) ∧ ∀ x, inP (swS keep s out in_ fr n0 n1) x ↔ keep (decide (sm b0c S x > 0)) (decide (sm b1c S x > 0)) = true
  | [], p, out, in_, fr, n0, n1, hS, _, _, hR, hC, _, hI => by
    refine ⟨hC, fun x => ?_⟩
    show inP out x ↔ _
    cases in_ with
    | false =>
      rw [← hR x (fun _ h => by cases h)]
      exact ⟨.inl, fun h => h.resolve_right fun h => by cases h.1⟩
    | true =>
      exfalso
      have h1 := (hR (kB fr + far S) (fun _ h => by cases h)).1 (.inr ⟨rfl, Nat.le_add_right _ _⟩)
      rw [uW (fun e he => Nat.le_trans (wC e he) (Nat.le_add_left _ _)), uW (fun e he => Nat.le_trans (wC e he) (Nat.le_add_left _ _)), hend] at h1
      cases h1
  | e :: r, p, out, in_, fr, n0, n1, hS, hn0, hn1, hR, hC, hL, hI => by
    have hS2 : S = (p ++ [e]) ++ r := by rw [hS]; simp
    have hTe := hT e (by rw [hS]; simp)
    have hm0 : n0 + e.b0 = rs b0c (p ++ [e]) := by rw [sE, hn0]; show _ = rs b0c p + (e.b0 + 0); omega
    have hm1 : n1 + e.b1 = rs b1c (p ++ [e]) := by rw [sE, hn1]; show _ = rs b1c p + (e.b1 + 0); omega
    have hs2 := hs
    rw [hS2, List.pairwise_append] at hs2
    have hpe : ∀ e' ∈ p ++ [e], kB e'.at_ ≤ kB e.at_ := fun e' he' => by
      have h1 := hs
      rw [hS, List.pairwise_append] at h1
      rcases List.mem_append.1 he' with h2 | h2
      · exact h1.2.2 e' h2 e (List.mem_cons_self ..)
      · rw [List.mem_singleton.1 h2]; exact Nat.le_refl _
    have her : ∀ e' ∈ r, kB e.at_ ≤ kB e'.at_ := fun e' he' => hs2.2.2 e (by simp) e' he'
    cases ht : nxe e r with
    | true =>
      obtain ⟨e2, r2, rfl⟩ : ∃ e2 r2, r = e2 :: r2 := by
        cases r with
        | nil => cases ht
        | cons e2 r2 => exact ⟨e2, r2, rfl⟩
      have hk : kB e.at_ = kB e2.at_ := by
        have ht : (bE e.at_ e2.at_ == 0) = true := ht
        rw [eqz hTe (hT e2 (by rw [hS]; simp)), decide_eq_true_eq] at ht
        exact ht
      rw [show swS keep (e :: e2 :: r2) out in_ fr n0 n1 = swS keep (e2 :: r2) out in_ fr (n0 + e.b0) (n1 + e.b1) by
        show (bif (nxe e (e2 :: r2)) then _ else _) = _
        rw [ht]; rfl]
      refine uN hT hs hend (e2 :: r2) (p ++ [e]) out in_ fr _ _ hS2 hm0 hm1 (fun x hx => hR x fun e' he' => ?_) hC (fun i hi e' he' => hL i hi e' (List.mem_cons_of_mem _ he')) (fun hin => ⟨(hI hin).1, fun e' he' => (hI hin).2.1 e' (List.mem_cons_of_mem _ he'), (hI hin).2.2⟩)
      rcases List.mem_cons.1 he' with rfl | he'
      · rw [hk]; exact hx e2 (List.mem_cons_self ..)
      · exact hx e' he'
    | false =>
      have hgt : ∀ e' ∈ r, kB e.at_ < kB e'.at_ := fun e' he' => by
        cases r with
        | nil => cases he'
        | cons e2 r2 =>
          have ht : (bE e.at_ e2.at_ == 0) = false := ht
          rw [eqz hTe (hT e2 (by rw [hS]; simp)), decide_eq_false_iff_not] at ht
          have h1 := her e2 (List.mem_cons_self ..)
          have h2 := List.pairwise_cons.1 hs2.2.1
          rcases List.mem_cons.1 he' with rfl | he'
          · omega
          · have := h2.1 e' he'; omega
      have hK : ∀ x, kB e.at_ ≤ x → (∀ e' ∈ r, x < kB e'.at_) → keep (decide (sm b0c S x > 0)) (decide (sm b1c S x > 0)) = keep (decide (n0 + e.b0 > 0)) (decide (n1 + e.b1 > 0)) := fun x h1 h2 => by
        have q : ∀ c : Ev → Int, sm c S x = rs c (p ++ [e]) := fun c => by
          rw [hS2, uV, uW (fun e' he' => Nat.le_trans (hpe e' he') h1), ry h2]; omega
        rw [q, q, hm0, hm1]
      have hlow : ∀ x, x < kB e.at_ → ∀ e' ∈ e :: r, x < kB e'.at_ := fun x hx e' he' => by
        rcases List.mem_cons.1 he' with rfl | he'
        · exact hx
        · have := her e' he'; omega
      have hLe : ∀ i ∈ out, kB (aE i) < kB e.at_ := fun i hi => hL i hi e (List.mem_cons_self ..)
      have hLr : ∀ i ∈ out, ∀ e' ∈ r, kB (aE i) < kB e'.at_ := fun i hi e' he' => hL i hi e' (List.mem_cons_of_mem _ he')
      have ih := fun out in_ fr => uN hT hs hend r (p ++ [e]) out in_ fr _ _ hS2 hm0 hm1
      rw [show swS keep (e :: r) out in_ fr n0 n1 = bif (keep (decide (n0 + e.b0 > 0)) (decide (n1 + e.b1 > 0))) && !in_ then swS keep r out (keep (decide (n0 + e.b0 > 0)) (decide (n1 + e.b1 > 0))) e.at_ (n0 + e.b0) (n1 + e.b1)
        else bif (!(keep (decide (n0 + e.b0 > 0)) (decide (n1 + e.b1 > 0)))) && in_ then swS keep r (out ++ [bK fr e.at_]) (keep (decide (n0 + e.b0 > 0)) (decide (n1 + e.b1 > 0))) fr (n0 + e.b0) (n1 + e.b1)
        else swS keep r out (keep (decide (n0 + e.b0 > 0)) (decide (n1 + e.b1 > 0))) fr (n0 + e.b0) (n1 + e.b1) by
        show (bif (nxe e r) then _ else _) = _
        rw [ht]; rfl]
      revert hK
      generalize keep (decide (n0 + e.b0 > 0)) (decide (n1 + e.b1 > 0)) = now
      intro hK
      have hall : ∀ x, x < kB e.at_ ∨ kB e.at_ ≤ x := fun x => Nat.lt_or_ge x _
      cases now with
      | true =>
        cases in_ with
        | false =>
          refine ih out true e.at_ (fun x hx => ?_) hC hLr (fun _ => ⟨hTe, hgt, hLe⟩)
          rcases hall x with h1 | h1
          · rw [← hR x (hlow x h1)]
            exact ⟨fun h => .inl (h.resolve_right fun h => by have := h.2; omega), fun h => .inl (h.resolve_right fun h => by cases h.1)⟩
          · rw [hK x h1 hx]
            exact ⟨fun _ => rfl, fun _ => .inr ⟨rfl, h1⟩⟩
        | true =>
          obtain ⟨i1, i2, i3⟩ := hI rfl
          refine ih out true fr (fun x hx => ?_) hC hLr (fun _ => ⟨i1, fun e' he' => i2 e' (List.mem_cons_of_mem _ he'), i3⟩)
          rcases hall x with h1 | h1
          · exact hR x (hlow x h1)
          · rw [hK x h1 hx]
            have := i2 e (List.mem_cons_self ..)
            exact ⟨fun _ => rfl, fun _ => .inr ⟨rfl, by omega⟩⟩
      | false =>
        cases in_ with
        | false =>
          refine ih out false fr (fun x hx => ?_) hC hLr (fun h => by cases h)
          rcases hall x with h1 | h1
          · exact hR x (hlow x h1)
          · rw [hK x h1 hx]
            exact ⟨fun h => h.elim (fun h => absurd h (not_in hLe h1)) fun h => (by cases h.1), fun h => (by cases h)⟩
        | true =>
          obtain ⟨i1, i2, i3⟩ := hI rfl
          have hfe := i2 e (List.mem_cons_self ..)
          have hin : ∀ x, inI (bK fr e.at_) x ↔ (kB fr ≤ x ∧ x < kB e.at_) := fun x => by unfold inI; rw [pJ, si]
          have hw : Wv (bK fr e.at_) := by
            refine wv_of ⟨?_, ?_⟩ (by rw [pJ, si]; exact hfe)
            · unfold bK; exact i1
            · unfold bK; exact hTe
          refine ih (out ++ [bK fr e.at_]) false fr (fun x hx => ?_) ⟨fun i hi => ?_, ?_⟩ (fun i hi e' he' => ?_) (fun h => by cases h)
          · have hx2 : inP (out ++ [bK fr e.at_]) x ↔ inP out x ∨ (kB fr ≤ x ∧ x < kB e.at_) := by
              rw [inP_app, dC, hin]
              exact ⟨fun h => h.imp id fun h => h.resolve_right (kG x), fun h => h.imp id .inl⟩
            rw [hx2]
            rcases hall x with h1 | h1
            · rw [← hR x (hlow x h1)]
              constructor
              · rintro ((h | h) | h)
                · exact .inl h
                · exact .inr ⟨rfl, h.1⟩
                · cases h.1
              · rintro (h | h)
                · exact .inl (.inl h)
                · exact .inl (.inr ⟨h.2, h1⟩)
            · rw [hK x h1 hx]
              constructor
              · rintro ((h | h) | h)
                · exact absurd h (not_in hLe h1)
                · omega
                · cases h.1
              · intro h; cases h
          · rcases List.mem_append.1 hi with hi | hi
            · exact hC.wv i hi
            · rw [List.mem_singleton.1 hi]; exact hw
          · rw [List.pairwise_append]
            refine ⟨hC.sep, List.pairwise_singleton _ _, fun i hi j hj => ?_⟩
            rw [List.mem_singleton.1 hj, pJ]
            exact i3 i hi
          · rcases List.mem_append.1 hi with hi | hi
            · exact hLr i hi e' he'
            · rw [List.mem_singleton.1 hi, si]
              exact hgt e' he'
def evA (a : List Iv) : List Ev := a.flatMap fun i => [⟨aJ i, 1, 0⟩, ⟨aE i, -1, 0⟩]
def evB (b : List Iv) : List Ev := b.flatMap fun i => [⟨aJ i, 0, 1⟩, ⟨aE i, 0, -1⟩]
theorem te [K : Key] {i : Iv} (h : Wv i) (x : Nat) : (if kB (aJ i) ≤ x then (1 : Int) else 0) + ((if kB (aE i) ≤ x then (-1 : Int) else 0)) = if kB (aJ i) ≤ x ∧ x < kB (aE i) then 1 else 0 := by
  have := h.bd
  by_cases h1 : kB (aJ i) ≤ x
  · by_cases h2 : kB (aE i) ≤ x
    · rw [if_pos h1, if_pos h2, if_neg (by omega)]; rfl
    · rw [if_pos h1, if_neg h2, if_pos ⟨h1, by omega⟩]; rfl
  · rw [if_neg h1, if_neg (by omega), if_neg (by omega)]; rfl
theorem evA_sm [K : Key] : ∀ {a : List Iv}, (∀ i ∈ a, Wv i) → ∀ x, 0 ≤ sm b0c (evA a) x ∧ (0 < sm b0c (evA a) x ↔ inP a x)
  | [], _, x => ⟨Int.le_refl _, ⟨fun h => absurd h (Int.lt_irrefl _), fun h => absurd h (kG x)⟩⟩
  | i :: a, h, x => by
    obtain ⟨h1, h2⟩ := evA_sm (a := a) (fun j hj => h j (List.mem_cons_of_mem _ hj)) x
    have e : sm b0c (evA (i :: a)) x = ((if kB (aJ i) ≤ x then (1 : Int) else 0) + ((if kB (aE i) ≤ x then (-1 : Int) else 0))) + sm b0c (evA a) x := by
      show (if kB (aJ i) ≤ x then (1 : Int) else 0) + ((if kB (aE i) ≤ x then (-1 : Int) else 0) + sm b0c (evA a) x) = _
      omega
    rw [e, te (h i (List.mem_cons_self ..)), dC, ← h2]
    unfold inI
    by_cases h3 : kB (aJ i) ≤ x ∧ x < kB (aE i)
    · rw [if_pos h3]; exact ⟨by omega, ⟨fun _ => .inl h3, fun _ => by omega⟩⟩
    · rw [if_neg h3]; exact ⟨by omega, ⟨fun h4 => .inr (by omega), fun h4 => by have := h4.resolve_left h3; omega⟩⟩
theorem evB_sm [K : Key] : ∀ {a : List Iv}, (∀ i ∈ a, Wv i) → ∀ x, 0 ≤ sm b1c (evB a) x ∧ (0 < sm b1c (evB a) x ↔ inP a x)
  | [], _, x => ⟨Int.le_refl _, ⟨fun h => absurd h (Int.lt_irrefl _), fun h => absurd h (kG x)⟩⟩
  | i :: a, h, x => by
    obtain ⟨h1, h2⟩ := evB_sm (a := a) (fun j hj => h j (List.mem_cons_of_mem _ hj)) x
    have e : sm b1c (evB (i :: a)) x = ((if kB (aJ i) ≤ x then (1 : Int) else 0) + ((if kB (aE i) ≤ x then (-1 : Int) else 0))) + sm b1c (evB a) x := by
      show (if kB (aJ i) ≤ x then (1 : Int) else 0) + ((if kB (aE i) ≤ x then (-1 : Int) else 0) + sm b1c (evB a) x) = _
      omega
    rw [e, te (h i (List.mem_cons_self ..)), dC, ← h2]
    unfold inI
    by_cases h3 : kB (aJ i) ≤ x ∧ x < kB (aE i)
    · rw [if_pos h3]; exact ⟨by omega, ⟨fun _ => .inl h3, fun _ => by omega⟩⟩
    · rw [if_neg h3]; exact ⟨by omega, ⟨fun h4 => .inr (by omega), fun h4 => by have := h4.resolve_left h3; omega⟩⟩
theorem evA_0 [K : Key] : ∀ (a : List Iv) (x : Nat), sm b1c (evA a) x = 0 ∧ rs b1c (evA a) = 0 ∧ rs b0c (evA a) = 0
  | [], _ => ⟨rfl, rfl, rfl⟩
  | i :: a, x => by
    obtain ⟨h1, h2, h3⟩ := evA_0 a x
    refine ⟨?_, ?_, ?_⟩
    · show (if kB (aJ i) ≤ x then (0 : Int) else 0) + ((if kB (aE i) ≤ x then (0 : Int) else 0) + sm b1c (evA a) x) = 0
      rw [h1]; simp
    · show (0 : Int) + (0 + rs b1c (evA a)) = 0
      rw [h2]; rfl
    · show (1 : Int) + (-1 + rs b0c (evA a)) = 0
      rw [h3]; rfl
theorem evB_0 [K : Key] : ∀ (a : List Iv) (x : Nat), sm b0c (evB a) x = 0 ∧ rs b0c (evB a) = 0 ∧ rs b1c (evB a) = 0
  | [], _ => ⟨rfl, rfl, rfl⟩
  | i :: a, x => by
    obtain ⟨h1, h2, h3⟩ := evB_0 a x
    refine ⟨?_, ?_, ?_⟩
    · show (if kB (aJ i) ≤ x then (0 : Int) else 0) + ((if kB (aE i) ≤ x then (0 : Int) else 0) + sm b0c (evB a) x) = 0
      rw [h1]; simp
    · show (0 : Int) + (0 + rs b0c (evB a)) = 0
      rw [h2]; rfl
    · show (1 : Int) + (-1 + rs b1c (evB a)) = 0
      rw [h3]; rfl
theorem wG [K : Key] {a b : List Iv} (ha : ∀ i ∈ a, Wv i) (hb : ∀ i ∈ b, Wv i) : ∀ e ∈ evA a ++ evB b, Tm e.at_.at_ := fun e he => by
  rcases List.mem_append.1 he with he | he
  · obtain ⟨i, hi, he⟩ := List.mem_flatMap.1 he
    have := (ha i hi).1
    rcases List.mem_cons.1 he with rfl | he
    · show Tm (aJ i).at_; rw [pf]; exact this.1
    · rw [List.mem_singleton.1 he]; show Tm (aE i).at_; rw [pl]; exact this.2
  · obtain ⟨i, hi, he⟩ := List.mem_flatMap.1 he
    have := (hb i hi).1
    rcases List.mem_cons.1 he with rfl | he
    · show Tm (aJ i).at_; rw [pf]; exact this.1
    · rw [List.mem_singleton.1 he]; show Tm (aE i).at_; rw [pl]; exact this.2
open Classical in
theorem mL [K : Key] {keep : Bool → Bool → Bool} (hk : keep false false = false) {a b : List Iv} (ha : ∀ i ∈ a, Wv i) (hb : ∀ i ∈ b, Wv i) {S : List Ev} (hp : S.Perm (evA a ++ evB b)) (hs : S.Pairwise fun a b => kB a.at_ ≤ kB b.at_) (fr : Bd) :
    Cn (swS keep S [] false fr 0 0) ∧ ∀ x, inP (swS keep S [] false fr 0 0) x ↔ keep (decide (inP a x)) (decide (inP b x)) = true := by
  have hT : ∀ e ∈ S, Tm e.at_.at_ := fun e he => wG ha hb e (hp.mem_iff.1 he)
  have h0 : ∀ x, sm b0c S x = sm b0c (evA a) x := fun x => by rw [uU hp, uV, (evB_0 b x).1]; omega
  have h1 : ∀ x, sm b1c S x = sm b1c (evB b) x := fun x => by rw [uU hp, uV, (evA_0 a x).1]; omega
  have hend : keep (decide (rs b0c S > 0)) (decide (rs b1c S > 0)) = false := by
    rw [vg hp, vg hp, sE, sE, (evA_0 a 0).2.2, (evB_0 b 0).2.1, (evA_0 a 0).2.1, (evB_0 b 0).2.2]
    exact hk
  have hx : ∀ x, keep (decide (sm b0c S x > 0)) (decide (sm b1c S x > 0)) = keep (decide (inP a x)) (decide (inP b x)) := fun x => by
    rw [h0, h1, decide_eq_decide.2 (evA_sm ha x).2, decide_eq_decide.2 (evB_sm hb x).2]
  obtain ⟨r1, r2⟩ := uN hT hs hend S [] [] false fr 0 0 rfl rfl rfl (fun x hx2 => by
    rw [ry hx2, ry hx2]
    constructor
    · rintro (h | h)
      · exact absurd h (kG x)
      · cases h.1
    · intro h
      rw [show decide ((0 : Int) > 0) = false from rfl, hk] at h; cases h) Cn.nil (fun _ h => by cases h) (fun h => by cases h)
  exact ⟨r1, fun x => by rw [r2, hx]⟩
end Go.Sx
namespace Go.Proofs
open Go.Shelf
def Tryz.laysSort_ren : Go.Shelf.Ren := ⟨fun | 6 => 245 | 15 => 285 | 14 => 284 | 28 => 296 | 29 => 255 | 20 => 297 | 21 => 298 | 22 => 299 | 23 => 300 | 24 => 301 | 25 => 302 | 26 => 303 | 27 => 304 | 46 => 317 | 47 => 318 | 48 => 319 | 49 => 320 | 50 => 321 | 57 => 334 | n => n, fun | 22 => 317 | 24 => 321 | 25 => 323 | 3 => 3 | 39 => 276 | 0 => 0 | 53 => 341 | 55 => 254 | 4 => 4 | 46 => 375 | 45 => 374 | 50 => 72 | 5 => 5 | 9 => 9 | 66 => 393 | 70 => 397 | 76 => 415 | 77 => 416 | n => n, fun | n => n⟩
theorem Tryz.laysSort : Go.Proofs.SlLaysF0.n6 Tryz.prog Tryz.laysSort_ren := {
  mixed := by kernel_rfl
  f6 := ⟨Tryz.f245.name, by decide, Tryz.func245.trans (congrArg some (by kernel_rfl))⟩
  f14 := ⟨Tryz.f284.name, by decide, Tryz.func284.trans (congrArg some (by kernel_rfl))⟩
  f15 := Tryz.func285.trans (congrArg some (by kernel_rfl))
  f20 := ⟨Tryz.f297.name, by decide, Tryz.func297.trans (congrArg some (by kernel_rfl))⟩
  f21 := ⟨Tryz.f298.name, by decide, Tryz.func298.trans (congrArg some (by kernel_rfl))⟩
  f22 := ⟨Tryz.f299.name, by decide, Tryz.func299.trans (congrArg some (by kernel_rfl))⟩
  f23 := ⟨Tryz.f300.name, by decide, Tryz.func300.trans (congrArg some (by kernel_rfl))⟩
  f24 := ⟨Tryz.f301.name, by decide, Tryz.func301.trans (congrArg some (by kernel_rfl))⟩
  f25 := ⟨Tryz.f302.name, by decide, Tryz.func302.trans (congrArg some (by kernel_rfl))⟩
  f26 := ⟨Tryz.f303.name, by decide, Tryz.func303.trans (congrArg some (by kernel_rfl))⟩
  f27 := ⟨Tryz.f304.name, by decide, Tryz.func304.trans (congrArg some (by kernel_rfl))⟩
  f28 := Tryz.func296.trans (congrArg some (by kernel_rfl))
  f29 := Tryz.func255.trans (congrArg some (by kernel_rfl))
  f46 := ⟨Tryz.f317.name, by decide, Tryz.func317.trans (congrArg some (by kernel_rfl))⟩
  f47 := Tryz.func318.trans (congrArg some (by kernel_rfl))
  f48 := Tryz.func319.trans (congrArg some (by kernel_rfl))
  f49 := ⟨Tryz.f320.name, by decide, Tryz.func320.trans (congrArg some (by kernel_rfl))⟩
  f50 := ⟨Tryz.f321.name, by decide, Tryz.func321.trans (congrArg some (by kernel_rfl))⟩
  f57 := ⟨Tryz.f334.name, by decide, Tryz.func334.trans (congrArg some (by kernel_rfl))⟩
  t0 := Tryz.underlying0
  a0 := Tryz.isAgg0
  z0 := Tryz.sizeOf0
  v0 := Tryz.zeroValue0
  t3 := Tryz.underlying3
  a3 := Tryz.isAgg3
  z3 := Tryz.sizeOf3
  v3 := Tryz.zeroValue3
  t4 := Tryz.underlying4
  a4 := Tryz.isAgg4
  z4 := Tryz.sizeOf4
  v4 := Tryz.zeroValue4
  t5 := Tryz.underlying5
  a5 := Tryz.isAgg5
  z5 := Tryz.sizeOf5
  v5 := Tryz.zeroValue5
  t9 := Tryz.underlying9
  a9 := Tryz.isAgg9
  z9 := Tryz.sizeOf9
  v9 := Tryz.zeroValue9
  t22 := Tryz.underlying317
  a22 := Tryz.isAgg317
  z22 := Tryz.sizeOf317
  v22 := Tryz.zeroValue317
  t25 := Tryz.underlying323
  a25 := Tryz.isAgg323
  z25 := Tryz.sizeOf323
  v25 := Tryz.zeroValue323
  t39 := Tryz.underlying276
  a39 := Tryz.isAgg276
  z39 := Tryz.sizeOf276
  v39 := Tryz.zeroValue276
  t45 := Tryz.underlying374
  a45 := Tryz.isAgg374
  z45 := Tryz.sizeOf374
  v45 := Tryz.zeroValue374
  t46 := Tryz.underlying375
  a46 := Tryz.isAgg375
  z46 := Tryz.sizeOf375
  v46 := Tryz.zeroValue375
  t50 := Tryz.underlying72
  a50 := Tryz.isAgg72
  z50 := Tryz.sizeOf72
  v50 := Tryz.zeroValue72
  t53 := Tryz.underlying341
  a53 := Tryz.isAgg341
  z53 := Tryz.sizeOf341
  v53 := Tryz.zeroValue341
  t55 := Tryz.underlying254
  a55 := Tryz.isAgg254
  z55 := Tryz.sizeOf254
  v55 := Tryz.zeroValue254
  t66 := Tryz.underlying393
  a66 := Tryz.isAgg393
  z66 := Tryz.sizeOf393
  v66 := Tryz.zeroValue393
  t70 := Tryz.underlying397
  a70 := Tryz.isAgg397
  z70 := Tryz.sizeOf397
  v70 := Tryz.zeroValue397
  t76 := Tryz.underlying415
  a76 := Tryz.isAgg415
  z76 := Tryz.sizeOf415
  v76 := Tryz.zeroValue415
  t77 := Tryz.underlying416
  a77 := Tryz.isAgg416
  z77 := Tryz.sizeOf416
  v77 := Tryz.zeroValue416 }
end Go.Proofs
namespace Go.Sx
open Go Go.RowKit Go.Proofs Go.Sort Go.Lib
structure TE [K : Key] where
  e : Ev
  tm : Tm e.at_.at_
instance yR7_1 [K : Key] : Inhabited TE := ⟨⟨default, tD⟩⟩
def cfT [K : Key] (x y : TE) : Int := bJ x.1 y.1
theorem ti [K : Key] (x y : TE) : ltOf cfT x y = decide (kB x.1.at_ < kB y.1.at_) := by
  unfold ltOf cfT bJ
  rw [cmpB x.2 y.2]
  exact decide_eq_decide.2 jQ
theorem w8 [K : Key] : SWO (ltOf cfT) where
  irrefl x := by rw [ti]; exact decide_eq_false (Nat.lt_irrefl _)
  trans x y z h1 h2 := by
    rw [ti, decide_eq_true_eq] at *
    omega
  ntrans x y z h1 h2 := by
    rw [ti, decide_eq_false_iff_not] at *
    omega
def pN [K : Key] (d : Array TE) : Array TE := pdq (ltOf cfT) d 0 d.size (Lib.bitLen d.size) true true
theorem uP [K : Key] (d : Array TE) : (pN d).size = d.size ∧ (pN d).toList.Perm d.toList ∧ (pN d).toList.Pairwise fun a b => kB a.1.at_ ≤ kB b.1.at_ := by
  have h := pdq_sorts (ltOf cfT) w8 d 0 d.size (Lib.bitLen d.size) true true (Nat.zero_le _) (Nat.le_refl _) (Or.inl rfl)
  obtain ⟨⟨h1, _, h3⟩, h4⟩ := h
  have h1 : (pN d).size = d.size := h1
  refine ⟨h1, ?_, ?_⟩
  · have h3 : ((pN d).extract 0 d.size).toList.Perm (d.extract 0 d.size).toList := h3
    rw [← h1] at h3
    rw [h1] at h3
    have e1 : (pN d).extract 0 d.size = pN d := by rw [← h1]; simp
    have e2 : d.extract 0 d.size = d := by simp
    rwa [e1, e2] at h3
  · rw [List.pairwise_iff_getElem]
    intro i j hi hj hij
    have hi' : i < (pN d).size := by simpa using hi
    have hj' : j < (pN d).size := by simpa using hj
    have h5 := h4 i j (Nat.zero_le _) hij (by rw [← h1]; exact hj')
    have h5 : ltOf cfT (pN d)[j]! (pN d)[i]! = false := h5
    rw [getElem!_pos (pN d) i hi', getElem!_pos (pN d) j hj', ti, decide_eq_false_iff_not] at h5
    show kB ((pN d).toList[i]).1.at_ ≤ kB ((pN d).toList[j]).1.at_
    simp only [Array.getElem_toList]
    omega
def tmB [K : Key] (x : GR) : Bool := decide (x ∈ K.l)
theorem uK [K : Key] {x : GR} : tmB x = true ↔ Tm x := Tm.iff
def tmL [K : Key] (l : List Ev) : Bool := l.all fun e => tmB e.at_.at_
theorem gM [K : Key] {l : List Ev} : tmL l = true ↔ ∀ e ∈ l, Tm e.at_.at_ := by
  unfold tmL
  rw [List.all_eq_true]
  exact ⟨fun h e he => uK.1 (h e he), fun h e he => uK.2 (h e he)⟩
def evT [K : Key] (l : List Ev) (h : tmL l = true) : Array TE := (l.attach.map fun e => (⟨e.1, gM.1 h e.1 e.2⟩ : TE)).toArray
theorem wH [K : Key] (l : List Ev) (h : tmL l = true) : (evT l h).toList.map (fun x => x.1) = l := by
  show ((l.attach.map fun e => (⟨e.1, gM.1 h e.1 e.2⟩ : TE)).map fun x => x.1) = l
  rw [List.map_map]
  exact List.attach_map_subtype_val l
theorem evT_size [K : Key] (l : List Ev) (h : tmL l = true) : (evT l h).size = l.length := by unfold evT; simp
def aQ [K : Key] (l : List Ev) : List Ev :=
  if h : tmL l = true then (if l.length ≤ 12 then bM l else (pN (evT l h)).toList.map fun x => x.1) else l
theorem small_is (l : List Ev) : bM l = qG bJ l 0 l.length := by
  unfold bM bL
  show bm l 0 l.length = _
  unfold bm
  rfl
theorem n7 [K : Key] {x : Ev} (hx : Tm x.at_.at_) : ∀ {r : List Ev}, (∀ e ∈ r, Tm e.at_.at_) → (r.Pairwise fun a b => kB b.at_ ≤ kB a.at_) → (fk bJ x r).Pairwise fun a b => kB b.at_ ≤ kB a.at_
  | [], _, _ => List.pairwise_singleton _ _
  | y :: q, h, hp => by
    have hy := h y (List.mem_cons_self ..)
    have hp2 := List.pairwise_cons.1 hp
    have hc : bJ x y < 0 ↔ kB x.at_ < kB y.at_ := by
      unfold bJ
      rw [cmpB hx hy, jQ]
    unfold fk
    by_cases hl : bJ x y < 0
    · rw [if_pos hl, List.pairwise_cons]
      refine ⟨fun z hz => ?_, n7 hx (fun e he => h e (List.mem_cons_of_mem _ he)) hp2.2⟩
      rcases List.mem_cons.1 ((gW (c := bJ) x q).mem_iff.1 hz) with rfl | hz
      · have := hc.1 hl; omega
      · exact hp2.1 z hz
    · rw [if_neg hl, List.pairwise_cons]
      have hxy : kB y.at_ ≤ kB x.at_ := Nat.le_of_not_lt fun h2 => hl (hc.2 h2)
      refine ⟨fun z hz => ?_, hp⟩
      rcases List.mem_cons.1 hz with rfl | hz
      · exact hxy
      · exact Nat.le_trans (hp2.1 z hz) hxy
theorem qH [K : Key] : ∀ {s r : List Ev}, (∀ e ∈ s, Tm e.at_.at_) → (∀ e ∈ r, Tm e.at_.at_) → (r.Pairwise fun a b => kB b.at_ ≤ kB a.at_) → (lx bJ r s).Pairwise fun a b => kB b.at_ ≤ kB a.at_
  | [], _, _, _, hp => hp
  | x :: s, r, h1, h2, hp => by
    have hx := h1 x (List.mem_cons_self ..)
    show (lx bJ (fk bJ x r) s).Pairwise _
    exact qH (fun e he => h1 e (List.mem_cons_of_mem _ he)) (fun e he => by
      rcases List.mem_cons.1 ((gW (c := bJ) x r).mem_iff.1 he) with rfl | he
      · exact hx
      · exact h2 e he) (n7 hx h2 hp)
theorem oH [K : Key] {l : List Ev} (h : ∀ e ∈ l, Tm e.at_.at_) : (aQ l).Perm l ∧ (aQ l).Pairwise fun a b => kB a.at_ ≤ kB b.at_ := by
  unfold aQ
  rw [dif_pos (gM.2 h)]
  by_cases hl : l.length ≤ 12
  · rw [if_pos hl, small_is]
    refine ⟨kj l, ?_⟩
    rw [ls, List.pairwise_reverse]
    exact qH h (fun _ h => by cases h) List.Pairwise.nil
  · rw [if_neg hl]
    obtain ⟨_, h2, h3⟩ := uP (evT l (gM.2 h))
    refine ⟨?_, by rw [List.pairwise_map]; exact h3⟩
    have := h2.map (fun x : TE => x.1)
    rwa [wH] at this
theorem iT [K : Key] (l : List Ev) : (aQ l).Perm l := by
  by_cases h : ∀ e ∈ l, Tm e.at_.at_
  · exact (oH h).1
  · unfold aQ; rw [dif_neg (fun h2 => h (gM.1 h2))]
theorem i7 [K : Key] (x : List Ev) (xv : Value) (hl : x.length ≤ 1000) (hT : ∀ e ∈ x, Tm e.at_.at_) (zx : All (SzE 30) x) (w0 w : World) (B : Asn) (hbel : Below w0.heap.size w0 w) (hsep : ∃ Z_, Sep w0.heap.size w [.row (α := Ev) 321 xv x, B] Z_)  : Calls Tryz.prog 245 #[xv, (.func (.func 246) #[] #[])] w (RetY w0 (fun v => v = .tuple #[] ∧ (All (SzE 30) (aQ x) ∧ (aQ x).length = x.length)) (fun v => [.row (α := Ev) 321 xv (aQ x), B])) := by
  have hprop : All (SzE 30) (aQ x) ∧ (aQ x).length = x.length := ⟨fun e he => zx e ((iT x).mem_iff.1 he), (iT x).length_eq⟩
  by_cases h12 : x.length ≤ 12
  · have e : aQ x = bM x := by unfold aQ; rw [dif_pos (gM.2 hT), if_pos h12]
    rw [e]
    exact ii x xv h12 zx w0 w B hbel hsep
  · have e : aQ x = (pN (evT x (gM.2 hT))).toList.map (fun x => x.1) := by unfold aQ; rw [dif_pos (gM.2 hT), if_neg h12]
    have hsz := evT_size x (gM.2 hT)
    have hsep2 : ∃ Z_, Sep w0.heap.size w [.row (α := Ev) 321 xv ((evT x (gM.2 hT)).toList.map (fun x => x.1)), B] Z_ := by rw [wH]; exact hsep
    have hk := sort_own (P := Tryz.prog) (val := fun x : TE => x.1) (F := 245) (more := [(.func (.func 246) #[] #[])]) (D' := pN (evT x (gM.2 hT))) (by omega) (uP _).1 hprop hbel hsep2 fun blk cap hv hH hhi hlo => by
      have eg : ∀ args w, (callFunc 246 args).run Tryz.prog w = .ok (.enter 246 args) w := Tryz.call246
      have hc := lays_of (P := Tryz.prog) (val := fun x : TE => x.1) (g := 246) (cf := cfT) (blk := blk) (size := (evT x (gM.2 hT)).size) (w := w) (p := fun x y => (-1 ≤ (bJ x.1 y.1) ∧ (bJ x.1 y.1) ≤ 1)) (fun a b w => gQ a.1 b.1 (e6 (tm_sz a.2) (by decide)) (e6 (tm_sz b.2) (by decide)) w)
      have := AnyQ.slices_SortFunc_eq (P := Tryz.prog) Tryz.laysSort 12 Tryz.isAgg321 zz321 (fun x : TE => Cod.enc x.1) (fun x => Cod.len x.1) (fun x => Cod.one x.1) cfT w8 246 #[] blk 0 cap (evT x (gM.2 hT)) w eg hc hH hhi (by omega)
      rw [hv]
      exact this
    rw [← e] at hk
    exact hk
def EvB (e : Ev) : Prop := (-1 ≤ e.b0 ∧ e.b0 ≤ 1) ∧ (-1 ≤ e.b1 ∧ e.b1 ≤ 1)
theorem evb_nil : ∀ e ∈ ([] : List Ev), EvB e := fun _ h => by cases h
theorem wE {l : List Ev} (h : ∀ e ∈ l, EvB e) {x y : Bd} {a b c d : Int} (h1 : (-1 ≤ a ∧ a ≤ 1) ∧ (-1 ≤ b ∧ b ≤ 1)) (h2 : (-1 ≤ c ∧ c ≤ 1) ∧ (-1 ≤ d ∧ d ≤ 1)) : ∀ e ∈ l ++ [⟨x, a, b⟩, ⟨y, c, d⟩], EvB e := fun e he => by
  rcases List.mem_append.1 he with he | he
  · exact h e he
  · rcases List.mem_cons.1 he with rfl | he
    · exact h1
    · rw [List.mem_singleton.1 he]; exact h2
theorem evb_gt [K : Key] {l : List Ev} (h : ∀ e ∈ l, EvB e) (i : Nat) : EvB (gt (aQ l) i) := by
  have hp := iT l
  by_cases hi : i < (aQ l).length
  · have : gt (aQ l) i ∈ aQ l := by
      unfold gt
      rw [List.getD_eq_getElem?_getD, List.getElem?_eq_getElem hi]
      exact List.getElem_mem _
    exact h _ (hp.mem_iff.1 this)
  · have : gt (aQ l) i = default := by unfold gt; rw [List.getD_eq_getElem?_getD, List.getElem?_eq_none (by omega)]; rfl
    rw [this]; exact ⟨⟨by decide, by decide⟩, ⟨by decide, by decide⟩⟩
theorem lZ {β : Type} [Inhabited β] {A : List β} {i : Nat} (h : i < A.length) : A.take (i + 1) = A.take i ++ [gt A i] := by
  rw [gD h, List.take_append_getElem]
theorem evA_next {l : List Ev} {a : List Iv} {x : Nat} (h : l = evA (a.take x)) (hx : x < a.length) : l ++ [⟨aJ (gt a x), 1, 0⟩, ⟨aE (gt a x), -1, 0⟩] = evA (a.take (x + 1)) := by
  rw [h, lZ hx]; simp [evA]
theorem evB_next {l : List Ev} {a b : List Iv} {x : Nat} (h : l = evA a ++ evB (b.take x)) (hx : x < b.length) : l ++ [⟨aJ (gt b x), 0, 1⟩, ⟨aE (gt b x), 0, -1⟩] = evA a ++ evB (b.take (x + 1)) := by
  rw [h, lZ hx]; simp [evB]
end Go.Sx
