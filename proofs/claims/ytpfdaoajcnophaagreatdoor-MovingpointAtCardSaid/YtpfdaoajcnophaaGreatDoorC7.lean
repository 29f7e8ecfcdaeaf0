/- A part of the proof of movingpointAt. -/
import Derived.Test.YtpfdaoajcnophaaGreatDoorC6
import Derived.Test.YtpfdaoajcnophaaGreatDoorC4
import Derived.Test.YtpfdaoajcnophaaGreatDoorC5
import Derived.Test.YtpfdaoajcnophaaGreatDoorProg
set_option linter.unusedVariables false
set_option linter.unusedSimpArgs false
open Go.Proofs.Tryz renaming runUnderlying260 → uu260, runUnderlying3 → uu3, sizeOf332 → zz332
namespace Go.Sx
open Go Go.RowKit Go.Proofs
set_option maxRecDepth 100000
set_option maxHeartbeats 40000000
attribute [local irreducible] Code.wp wpList Rd Step ObS Ent
attribute [local irreducible] ao aK ak ap ax bI
theorem lM (t x y : Int) (k : Nat) (hk : k ≤ 40) (ht : -9223372036854775808 ≤ t ∧ t ≤ 9223372036854775807) (hx : -9223372036854775808 ≤ x ∧ x ≤ 9223372036854775807) (hy : -9223372036854775808 ≤ y ∧ y ≤ 9223372036854775807) (w0 : World) : Calls Tryz.prog 89 #[.int .i64 t, .int .i64 x, .int .i64 y] w0 (RetP w0 (vSm (d7 t x y)) (vk k (d7 t x y))) := by
 refine enter (N := 15) (args := [.int .i64 t, .int .i64 x, .int .i64 y]) Tryz.func89 rfl rfl ?_; intro ac h
 have c1 := bV t k hk ht
 have c2 := bV x k hk hx
 have c3 := bV y k hk hy
 refine gz h <| (xa) fun b1 => (xk c1) <| (xk c2) <| (xk c3) <| (W) ?_; clear h ac; intro ac wo h
 exact rtc 0 h (h.retP (u := vSm (d7 t x y)) rfl ⟨an (c1 w0), an (c2 w0), an (c3 w0)⟩)
def exampleS : List Smp := [d7 0 0 0, d7 2 4 0, d7 4 4 6]
theorem uY (w0 : World) : Calls Tryz.prog 99 #[] w0 (RetR w0 145 exampleS True) := by
 refine enter (N := 5) (args := []) Tryz.func99 rfl rfl ?_; intro ac h
 refine gz h <| (xk (lM 0 0 0 40 (by omega) (by omega) (by omega) (by omega))) <| (xk (lM 2 4 0 40 (by omega) (by omega) (by omega) (by omega))) <| (xk (lM 4 4 6 40 (by omega) (by omega) (by omega) (by omega))) <| (W) ?_; clear h ac; intro ac wo h
 refine nw h (dC (α := Smp) (xs := [.tmp 1, .tmp 2, .tmp 3]) (vs := [vSm (d7 0 0 0), vSm (d7 2 4 0), vSm (d7 4 4 6)]) exampleS slt23 rfl rfl rfl (by decide)) rfl ?_; clear h ac wo; intro s1 ac wo _ h
 refine gz h <| (W) ?_; clear h ac wo; intro ac wo h
 exact (rt h) (h.retR 0 rfl trivial)
def bR (a : GI) : Int := if a.neg then -(a.mag : Int) else a.mag
theorem iY (a : GI) (hm : a.mag < 4611686018427387904) (w0 : World) : Calls Tryz.prog 119 #[vI a] w0 (RetP w0 (.tuple #[.int .i64 (bR a), .bool true]) True) := by
 refine enter (N := 35) (args := [vI a]) Tryz.func119 rfl rfl ?_; intro ac h
 have e : dO a.mag = (a.mag, true) := by rw [pJ, if_pos (by omega)]
 have c1 : ∀ w0, Calls Tryz.prog 219 #[(.string (bs a.mag))] w0 (RetP w0 (.tuple #[(.int .u64 (a.mag : Int)), (.bool true)]) True) := fun w0 => by
  have := jp a.mag w0
  rw [e] at this; exact this
 refine gz h <| (xb) fun b1 => (xk c1) <| (ai) ?_ ?_ <;> clear h ac <;> intro ac wo h hc1
 · cases hc1
 refine gz h <| (ai) ?_ ?_ <;> clear h ac wo <;> intro ac wo h hc2
 ·
  obtain ⟨h1, h2⟩ := Bool.and_eq_true_iff.mp hc2
  have e3 : bR a = -(a.mag : Int) := by unfold bR; rw [if_pos h1]
  rw [e3]
  refine gz h <| (xo (hs := by exact r_neg rfl (r := IntKind.u64.wrap (-(a.mag : Int))) rfl)) <| (xo (hs := by exact bc uu260 uu3 rfl (r := -(a.mag : Int)) (by rw [IntKind.wrap_u64, IntKind.wrap_i64]; omega))) <| (W) ?_; clear h ac wo; intro ac wo h
  exact (rt h) (h.retP rfl trivial)
 ·
  have h1 : a.neg = false := by
   have : decide ((a.mag : Int) ≤ 9223372036854775808) = true := decide_eq_true (by omega)
   rw [this, Bool.and_true] at hc2; exact hc2
  have e3 : bR a = (a.mag : Int) := by unfold bR; rw [h1]; rfl
  rw [e3]
  refine gz h <| (ai) ?_ ?_ <;> clear h ac wo <;> intro ac wo h hc3
  · refine gz h <| (xo (hs := by exact bc uu260 uu3 rfl (r := (a.mag : Int)) (by rw [IntKind.wrap_i64]; omega))) <| (W) ?_; clear h ac wo; intro ac wo h
    exact (rt h) (h.retP rfl trivial)
  · have : decide ((a.mag : Int) ≤ 9223372036854775807) = true := decide_eq_true (by omega)
    rw [this, h1] at hc3; cases hc3
def fO (x : GR) : GR := ⟨aR x.p, x.r, !decide (x.r = oQ) && !x.neg⟩
theorem sC (x : GR) (k : Nat) (hk : k ≤ 40) (z : SzR k x) (w0 : World) : Calls Tryz.prog 227 #[vR x] w0 (RetP w0 (vR (fO x)) (SzR k (fO x))) := by
 refine enter (N := 18) (args := [vR x]) Tryz.func227 rfl rfl ?_; intro ac h
 have c1 := fo x.p k hk z.1
 refine gz h <| (xb) fun b1 => (xa) fun b2 => (dr1 (H := [⟨.blk b2 (cR ⟨oQ, oQ, false⟩) 46, [(15, .con (.blk b2 (cR ⟨aR x.p, x.r, !decide (x.r = oQ) && !x.neg⟩) 46))]⟩, ⟨_, []⟩]) (hob := (oK c1) <| (oX (h := by exact fun _ => aZ (bF ni exs rfl (v := vQ oQ) rfl))) <| (oX (h := by exact fun _ => aZ (bF vd exs rfl (v := vR ⟨aR x.p, x.r, !decide (x.r = oQ) && !x.neg⟩) rfl))) <| oE)) <| (W) ?_; clear h ac; intro ac wo h
 exact rtc 0 h (h.retP (u := vR (fO x)) rfl ⟨an (c1 w0), z.2⟩)
attribute [irreducible] fO
def gJ (x : GR) : GI := au (eQ (fO x))
def Sm (_ : GQ) : Prop := True
def fm (p q r : GQ) : GR × Int :=
 bif decide (ap r < 0) then (⟨oQ, oQ, false⟩, 2)
 else bif (ch r).2 then (⟨az p (am q (ch r).1), oQ, false⟩, 0)
 else (⟨p, am (am q q) r, decide (ap q < 0)⟩, 0)
theorem mL (p q r : GQ) (k : Nat) (hk : k ≤ 10) (zp : SzQ (k + 6) p) (zq : SzQ (k + 6) q) (zr : SzQ (k + 6) r) (hr : Sm r) (z3 : SzQ 30 r) (w0 : World) : Calls Tryz.prog 112 #[vQ p, vQ q, vQ r] w0 (RetP w0 (.tuple #[vR (fm p q r).1, .int .i64 (fm p q r).2]) (SzR k (fm p q r).1)) := by
 refine enter (N := 36) (args := [vQ p, vQ q, vQ r]) Tryz.func112 rfl rfl ?_; intro ac h
 have c1 := cC r
 have s1 := an (c1 w0)
 have c2 := jN r z3
 have s2 := an (c2 w0)
 refine gz h <| (xb) fun b1 => (xb) fun b2 => (xb) fun b3 => (xa) fun b4 => (xk c1) <| (ai) ?_ ?_ <;> clear h ac <;> intro ac wo h hc1
 ·
  have hd : fm p q r = (⟨oQ, oQ, false⟩, 2) := by unfold fm; rw [hc1]; rfl
  rw [hd]
  refine gz h <| (xo (hs := by exact bF vd exs rfl (v := vR ⟨oQ, oQ, false⟩) rfl)) <| (W) ?_; clear h ac wo; intro ac wo h
  exact sf 0 h (h.retP (u := .tuple #[vR ⟨oQ, oQ, false⟩, .int .i64 2]) rfl ⟨⟨bu 0 (by decide) og, bu 0 (by decide) og⟩, ⟨bu 0 (by decide) og, bu 0 (by decide) og⟩⟩)
 ·
  refine gz h <| (xk c2) <| (xa) fun b5 => (ai) ?_ ?_ <;> clear h ac wo <;> intro ac wo h hc2
  ·
   have hd : fm p q r = (⟨az p (am q (ch r).1), oQ, false⟩, 0) := by unfold fm; rw [hc1, hc2]; rfl
   rw [hd]
   have c3 := bk q (ch r).1 (k + 4) og zq (cX s2 og)
   have s3 := an (c3 w0)
   have c4 := cu p (am q (ch r).1) (k + 1) og (cX zp og) s3
   have s4 := an (c4 w0)
   refine gz h <| (dr1 (H := [⟨_, []⟩, ⟨.blk b4 (cR ⟨oQ, oQ, false⟩) 46, [(6, .con (.blk b4 (cR ⟨az p (am q (ch r).1), oQ, false⟩) 46))]⟩, ⟨_, []⟩, ⟨_, []⟩, ⟨_, []⟩]) (hob := (oK c3) <| (oK c4) <| (oX (h := by exact fun _ => aZ (bF vd exs rfl (v := vR ⟨az p (am q (ch r).1), oQ, false⟩) rfl))) <| oE)) <| (W) ?_; clear h ac wo; intro ac wo h
   exact sf 1 h (h.retP (u := .tuple #[vR ⟨az p (am q (ch r).1), oQ, false⟩, .int .i64 0]) rfl ⟨cX s4 og, ⟨bu 0 (by decide) og, bu 0 (by decide) og⟩⟩)
  ·
   have hd : fm p q r = (⟨p, am (am q q) r, decide (ap q < 0)⟩, 0) := by unfold fm; rw [hc1, hc2]; rfl
   rw [hd]
   have c3 := bk q q (k + 4) og zq zq
   have s3 := an (c3 w0)
   have c4 := bk (am q q) r (k + 2) og s3 (cX zr og)
   have s4 := an (c4 w0)
   have c5 := cC q
   refine gz h <| (dr1 (H := [⟨_, []⟩, ⟨.blk b4 (cR ⟨oQ, oQ, false⟩) 46, [(10, .con (.blk b4 (cR ⟨p, am (am q q) r, decide (ap q < 0)⟩) 46))]⟩, ⟨_, []⟩, ⟨_, []⟩, ⟨_, []⟩]) (hob := (oK c3) <| (oK c4) <| (oK c5) <| (oX (h := by exact fun _ => aZ (bF vd exs rfl (v := vR ⟨p, am (am q q) r, decide (ap q < 0)⟩) rfl))) <| oE)) <| (W) ?_; clear h ac wo; intro ac wo h
   exact sf 1 h (h.retP (u := .tuple #[vR ⟨p, am (am q q) r, decide (ap q < 0)⟩, .int .i64 0]) rfl ⟨cX zp og, cX s4 og⟩)
attribute [irreducible] fm
theorem q7 (x : GR) (hf : ∀ w0, Calls Tryz.prog 120 #[vR (fO x)] w0 (RetP w0 (vI (eQ (fO x))) (SzI 40 (eQ (fO x))))) (z : SzR 36 x) (w0 : World) : Calls Tryz.prog 121 #[vR x] w0 (RetP w0 (vI (gJ x)) (SzI 40 (gJ x))) := by
 refine enter (N := 7) (args := [vR x]) Tryz.func121 rfl rfl ?_; intro ac h
 have c1 := sC x 36 og z
 have c3 := dX (eQ (fO x)) 40 og (an (hf w0))
 refine gz h <| (xb) fun b1 => (xa) fun b2 => (xk c1) <| (xk hf) <| (xk c3) <| (W) ?_; clear h ac; intro ac wo h
 exact rtc 0 h (h.retP (u := vI (gJ x)) rfl (an (c3 w0)))
end Go.Sx
namespace Go.Sx
open Go Go.RowKit Go.Proofs
set_option maxRecDepth 100000
set_option maxHeartbeats 40000000
attribute [local irreducible] Code.wp wpList Rd Step ObS Ent
attribute [local irreducible] ao aK ak ap ax bI
def bL (a : Bd) (b : Bd) : Iv :=
 (⟨a.at_, b.at_, a.behind, (!b.behind)⟩ : Iv)
theorem jT (a : Bd) (b : Bd) (za : SzW 30 a) (zb : SzW 30 b) (w0 : World)  : Calls Tryz.prog 269 #[(vW a), (vW b)] w0 (RetP w0 (vV (bL a b)) (SzV 30 (bL a b))) := by
 refine enter (N := 15) (args := [(vW a), (vW b)]) Tryz.func269 rfl rfl ?_; intro ac h
 refine gz h <| (xb) fun b1 => (xb) fun b2 => (xa) fun b3 => (xo (hs := by exact bF mi exs rfl (v := (vV (⟨a.at_, b.at_, a.behind, (!b.behind)⟩ : Iv))) rfl)) <| (W) ?_; clear h ac; intro ac wo h
 exact ret h rfl (.cell (v := (vV (⟨a.at_, b.at_, a.behind, (!b.behind)⟩ : Iv))) rfl (i := 0) rfl Tryz.isAgg74 Tryz.sizeOf74 rfl rfl rfl .nil) rfl (h.retP (by unfold bL; rfl) (by unfold bL; exact ⟨za, zb⟩))
attribute [irreducible] bL
def bK (x : Ev) (y : Ev) : Int :=
 (aI x.at_ y.at_)
theorem iC (x : Ev) (y : Ev) (zx : SzE 30 x) (zy : SzE 30 y) (w0 : World)  : Calls Tryz.prog 268 #[(vE x), (vE y)] w0 (RetP w0 (.int .i64 (bK x y)) ((-1 ≤ (bK x y) ∧ (bK x y) ≤ 1))) := by
 refine enter (N := 10) (args := [(vE x), (vE y)]) Tryz.func268 rfl rfl ?_; intro ac h
 have c1 := eF x.at_ y.at_ zx zy
 have s1 := Calls.pr (c1 w0)
 have p2 := s1
 refine gz h <| (xb) fun b1 => (xb) fun b2 => (xk (c1)) <| (W) ?_; clear h ac; intro ac wo h
 exact (rt h) (h.retP (by unfold bK; rfl) (by unfold bK; exact og))
attribute [irreducible] bK
def di (a : Bool) (b : Bool) : Bool :=
 (a && b)
theorem kw (a : Bool) (b : Bool) (w0 : World)  : Calls Tryz.prog 195 #[(.bool a), (.bool b)] w0 (RetP w0 (.bool (di a b)) (True)) := by
 refine enter (N := 9) (args := [(.bool a), (.bool b)]) Tryz.func195 rfl rfl ?_; intro ac h
 refine gz h <| (W) ?_; clear h ac; intro ac wo h
 exact (rt h) (h.retP (by unfold di; rfl) trivial)
attribute [irreducible] di
def gH (data : List Ev) (a : Nat) (b : Nat) (i : Nat) (data1 : List Ev) : List Ev :=
 data1
def gG (data : List Ev) (a : Nat) (b : Nat) (i : Nat) (data1 : List Ev) (j : Nat) (data2 : List Ev) : Nx (Nat × (List Ev)) (List Ev) :=
 .go ((i + 1), data2)
def dQ (data : List Ev) (a : Nat) (b : Nat) (i : Nat) (data1 : List Ev) (j : Nat) (data2 : List Ev) : Nx (Nat × (List Ev)) (List Ev) :=
 bif ((decide (((j : Nat) : Int) > ((a : Nat) : Int))) && (decide ((bK (gt data2 j) (gt data2 (j - 1))) < 0))) then
  .go ((j - 1), ((data2.set j (gt data2 (j - 1))).set (j - 1) (gt data2 j)))
 else
  .out (j, data2)
def dR (data : List Ev) (a : Nat) (b : Nat) (i : Nat) (data1 : List Ev) : Nx (Nat × (List Ev)) (List Ev) :=
 bif (decide (((i : Nat) : Int) < ((b : Nat) : Int))) then
  fin (dE (fun s => dQ data a b i data1 s.1 s.2) (i + 1) (i, data1)) (fun s => gG data a b i data1 s.1 s.2) (fun r => .ret r)
 else
  .out (i, data1)
def bm (data : List Ev) (a : Nat) (b : Nat) : List Ev :=
 fin (dE (fun s => dR data a b s.1 s.2) ((b + 1 - (a + 1)) + 1) ((a + 1), data)) (fun s => gH data a b s.1 s.2) (fun r => r)
theorem gF (data : List Ev) (datav : Value) (a : Nat) (b : Nat) (hab : a ≤ b) (hb : b ≤ data.length) (hb2 : b ≤ 1000) (zdata : All (SzE 30) data) (w0 w : World) (B : Asn) (hbel : Below w0.heap.size w0 w) (hsep : ∃ Z_, Sep w0.heap.size w [.row (α := Ev) 332 datav data, B] Z_)  : Calls Tryz.prog 335 #[datav, (.int .i64 ((a : Nat) : Int)), (.int .i64 ((b : Nat) : Int)), (.func (.func 268) #[] #[])] w (RetY w0 (fun v => v = .tuple #[] ∧ (All (SzE 30) (bm data a b) ∧ (bm data a b).length = data.length)) (fun v => [.row (α := Ev) 332 datav (bm data a b), B])) := by
 refine mW (N := 53) (args := [datav, (.int .i64 ((a : Nat) : Int)), (.int .i64 ((b : Nat) : Int)), (.func (.func 268) #[] #[])]) Tryz.func335 rfl rfl hbel hsep ?_; intro ac h
 have hlendata := h.len 0 rfl
 obtain ⟨X1, hX1⟩ : ∃ X, dE (fun s => dR data a b s.1 s.2) ((b + 1 - (a + 1)) + 1) ((a + 1), data) = X := ⟨_, rfl⟩
 refine gz h <| (W) ?_; clear h ac; intro ac wo h
 refine wp_loop_ghost (fun n_ a_ w_ => ∃ (i : Nat) (data1 : List Ev), ((b + 1 - i) < n_) ∧ (dE (fun s => dR data a b s.1 s.2) n_ (i, data1) = X1) ∧ (i ≤ b + 1) ∧ (All (SzE 30) data1) ∧ (data1.length = data.length) ∧ St w0 53 [(0, datav), (1, (.int .i64 ((a : Nat) : Int))), (2, (.int .i64 ((b : Nat) : Int))), (3, (.func (.func 268) #[] #[])), (8, (.int .i64 ((i : Nat) : Int)))] [.row (α := Ev) 332 datav data1, B] a_ w_) ((b + 1 - (a + 1)) + 1) ⟨(a + 1), data, og, hX1, og, zdata, og, h.rs⟩ ?_
 clear h ac wo; rintro n1 ac wo ⟨i, data1, hm1, hL1, hi, zdata1, hdl, h⟩
 obtain ⟨m1, rfl⟩ : ∃ m, n1 = m + 1 := ⟨n1 - 1, by omega⟩
 refine gz h <| (ai) ?_ ?_ <;> clear h ac wo <;> intro ac wo h hc1
 ·
  have hd1 := of_decide_eq_true hc1
  obtain ⟨X2, hX2⟩ : ∃ X, dE (fun s => dQ data a b i data1 s.1 s.2) (i + 1) (i, data1) = X := ⟨_, rfl⟩
  refine gz h <| (W) ?_; clear h ac wo; intro ac wo h
  refine wp_loop_ghost (fun n_ a_ w_ => ∃ (j : Nat) (data2 : List Ev), (j < n_) ∧ (dE (fun s => dQ data a b i data1 s.1 s.2) n_ (j, data2) = X2) ∧ (All (SzE 30) data2) ∧ (j ≤ i) ∧ (data2.length = data.length) ∧ St w0 53 [(0, datav), (1, (.int .i64 ((a : Nat) : Int))), (2, (.int .i64 ((b : Nat) : Int))), (3, (.func (.func 268) #[] #[])), (8, (.int .i64 ((i : Nat) : Int))), (9, (.int .i64 ((j : Nat) : Int)))] [.row (α := Ev) 332 datav data2, B] a_ w_) (i + 1) ⟨i, data1, og, hX2, zdata1, og, og, h.rs⟩ ?_
  clear h ac wo; rintro n2 ac wo ⟨j, data2, hm2, hL2, zdata2, hj, hdl2, h⟩
  obtain ⟨m2, rfl⟩ : ∃ m, n2 = m + 1 := ⟨n2 - 1, by omega⟩
  refine gz h <| (W) ?_; clear h ac wo; intro ac wo h
  have s1 := Calls.pr ((fun w_ hB_ hS_ => iC (gt data2 j) (gt data2 (j - 1)) (All.gt zdata2 (sd _)) (All.gt zdata2 (sd _)) w_ ) _ h.bel h.sep)
  have p2 := s1
  refine gz h <| (dr0 (hob := (oG (by exact fun hg => iC (gt data2 j) (gt data2 (j - 1)) (All.gt zdata2 (sd _)) (All.gt zdata2 (sd _)))) <| oE)) <| (ai) ?_ ?_ <;> clear h ac wo <;> intro ac wo h hc2
  ·
   have hq2 := hc2; try simp at hq2
   refine gz h <| (dr1 (H := [⟨.row (α := Ev) 332 datav data2, [(15, .con (.row (α := Ev) 332 datav (data2.set j (gt data2 (j - 1))))), (17, .con (.row (α := Ev) 332 datav ((data2.set j (gt data2 (j - 1))).set (j - 1) (gt data2 j))))]⟩, ⟨_, []⟩]) (hob := (oY (h := by exact fun _ => ly (acc := [0]) _ [.row (α := Ev) 332 datav (data2.set j (gt data2 (j - 1)))] rfl rfl (iA (k := 0) (u' := (gt data2 (j - 1))) zz332 (jX og) rfl (Nat.add_zero _) rfl rfl rfl rfl rfl rfl))) <| (oY (h := by exact fun _ => ly (acc := [0]) _ [.row (α := Ev) 332 datav ((data2.set j (gt data2 (j - 1))).set (j - 1) (gt data2 j))] rfl rfl (iA (k := 0) (u' := (gt data2 j)) zz332 (jX og) rfl (Nat.add_zero _) rfl rfl rfl rfl rfl rfl))) <| oE)) <| (W) ?_; clear h ac wo; intro ac wo h
   have hg := eO hL2 pt
   exact aL ⟨m2, og, _, _, og, hg, (All.set (All.set zdata2 (All.gt zdata2 (sd _))) (All.gt zdata2 (sd _))), og, og, h.re [0, 1]⟩
  ·
   have hq2 := hc2; try simp at hq2
   have hx2 := f8 hL2 pt
   refine gz h <| (W) ?_; clear h ac wo; intro ac wo h
   have hg := eO hL1 pt
   exact aL ⟨m1, og, _, _, og, hg, og, zdata2, og, h.re [0, 1]⟩
 ·
  have hd1 := of_decide_eq_false hc1
  have hx1 := f8 hL1 pt
  have hd : bm data a b = data1 := pt
  refine gz h <| (W) ?_; clear h ac wo; intro ac wo h
  exact retN (vs := []) h rfl .nil rfl ((h.pick [0, 1] (by decide)).retY ⟨rfl, (by rw [hd]; exact ⟨zdata1, og⟩)⟩ (by rw [hd]; rfl))
attribute [irreducible] bm
def d5 (a : Bool) (b : Bool) : Bool :=
 (a || b)
theorem mA (a : Bool) (b : Bool) (w0 : World)  : Calls Tryz.prog 289 #[(.bool a), (.bool b)] w0 (RetP w0 (.bool (d5 a b)) (True)) := by
 refine enter (N := 9) (args := [(.bool a), (.bool b)]) Tryz.func289 rfl rfl ?_; intro ac h
 refine gz h <| (W) ?_; clear h ac; intro ac wo h
 exact (rt h) (h.retP (by unfold d5; rfl) trivial)
attribute [irreducible] d5
def d6 (a : Bool) (b : Bool) : Bool :=
 (a && (!b))
theorem mB (a : Bool) (b : Bool) (w0 : World)  : Calls Tryz.prog 218 #[(.bool a), (.bool b)] w0 (RetP w0 (.bool (d6 a b)) (True)) := by
 refine enter (N := 10) (args := [(.bool a), (.bool b)]) Tryz.func218 rfl rfl ?_; intro ac h
 refine gz h <| (W) ?_; clear h ac; intro ac wo h
 exact (rt h) (h.retP (by unfold d6; rfl) trivial)
attribute [irreducible] d6
end Go.Sx
namespace Go.Sx
open Go Go.RowKit Go.Proofs
set_option maxRecDepth 100000
set_option maxHeartbeats 40000000
attribute [local irreducible] Code.wp wpList Rd Step ObS Ent
attribute [local irreducible] ao aK ak ap ax bI
def bM (data : List Ev) (a : Nat) (b : Nat) (limit : Int) : List Ev :=
 (bm data a b)
theorem iL (data : List Ev) (datav : Value) (a : Nat) (b : Nat) (limit : Int) (hab : a ≤ b) (hb : b ≤ data.length) (hb2 : b ≤ 1000) (h12 : b ≤ a + 12) (zdata : All (SzE 30) data) (w0 w : World) (B : Asn) (hbel : Below w0.heap.size w0 w) (hsep : ∃ Z_, Sep w0.heap.size w [.row (α := Ev) 332 datav data, B] Z_)  : Calls Tryz.prog 307 #[datav, (.int .i64 ((a : Nat) : Int)), (.int .i64 ((b : Nat) : Int)), (.int .i64 limit), (.func (.func 268) #[] #[])] w (RetY w0 (fun v => v = .tuple #[] ∧ (All (SzE 30) (bM data a b limit) ∧ (bM data a b limit).length = data.length)) (fun v => [.row (α := Ev) 332 datav (bM data a b limit), B])) := by
 refine mW (N := 148) (args := [datav, (.int .i64 ((a : Nat) : Int)), (.int .i64 ((b : Nat) : Int)), (.int .i64 limit), (.func (.func 268) #[] #[])]) Tryz.func307 rfl rfl hbel hsep ?_; intro ac h
 have hlendata := h.len 0 rfl
 refine gz h <| (W) ?_; clear h ac; intro ac wo h
 refine qO 1 ?_
 refine gz h <| (xo (hs := by exact gy rfl rfl (r := (((b - a) : Nat) : Int)) (by rw [IntKind.wrap_i64]; first | omega | grind))) <| (W) ?_; clear h ac wo; intro ac wo h
 refine c_ifT h rfl ?_ (decide_eq_true og)
 refine gz h <| (W) ?_; clear h ac wo; intro ac wo h
 refine on1 h 0 rfl (uI (vs := [datav, (.int .i64 ((a : Nat) : Int)), (.int .i64 ((b : Nat) : Int)), (.func (.func 268) #[] #[])]) (A := fun v => [.row (α := Ev) 332 datav (bm data a b)]) (dl Tryz.call335 rfl) (fun w_ B_ hB_ hS_ => gF data datav a b og og og zdata w0 w_ B_ hB_ hS_ )) rfl ?_; clear h ac wo; intro vc ac wo s2 h
 obtain rfl : vc = _ := s2.1
 have p3 := s2.2.2
 refine gz h <| (W) ?_; clear h ac wo; intro ac wo h
 replace h := h.sub (F' := []) trivial
 have hd : bM data a b limit = (bm data a b) := rfl
 refine gz h <| (W) ?_; clear h ac wo; intro ac wo h
 exact ret (vs := []) h rfl .nil rfl ((h.pick [0, 1] (by decide)).retY ⟨rfl, (by rw [hd]; exact ⟨s2.2.1, og⟩)⟩ (by rw [hd]; rfl))
attribute [irreducible] bM
end Go.Sx
namespace Go.Sx
open Go Go.RowKit Go.Proofs
set_option maxRecDepth 100000
set_option maxHeartbeats 40000000
attribute [local irreducible] Code.wp wpList Rd Step ObS Ent
attribute [local irreducible] ao aK ak ap ax bI
def fF (x : Nat) : Int :=
 ((Lib.bitLen x : Nat) : Int)
theorem nb (x : Nat) (hx : x < 18446744073709551616) (w0 : World)  : Calls Tryz.prog 308 #[(.int .u64 ((x : Nat) : Int))] w0 (RetP w0 (.int .i64 (fF x)) (True)) := by
 refine enter (N := 8) (args := [(.int .u64 ((x : Nat) : Int))]) Tryz.func308 rfl rfl ?_; intro ac h
 refine gz h <| (W) ?_; clear h ac; intro ac wo h
 refine x7 h rfl ?_
 refine gz h <| (xk (uw x (by assumption))) <| (W) ?_; clear h ac wo; intro ac wo h
 exact (rt h) (h.retP (by unfold fF; rfl) trivial)
attribute [irreducible] fF
def bN (x : List Ev) : List Ev :=
 (bM x 0 x.length (fF x.length))
theorem iM (x : List Ev) (xv : Value) (hl : x.length ≤ 12) (zx : All (SzE 30) x) (w0 w : World) (B : Asn) (hbel : Below w0.heap.size w0 w) (hsep : ∃ Z_, Sep w0.heap.size w [.row (α := Ev) 332 xv x, B] Z_)  : Calls Tryz.prog 267 #[xv, (.func (.func 268) #[] #[])] w (RetY w0 (fun v => v = .tuple #[] ∧ (All (SzE 30) (bN x) ∧ (bN x).length = x.length)) (fun v => [.row (α := Ev) 332 xv (bN x), B])) := by
 refine mW (N := 14) (args := [xv, (.func (.func 268) #[] #[])]) Tryz.func267 rfl rfl hbel hsep ?_; intro ac h
 have hlenx := h.len 0 rfl
 refine gz h <| (xo (hs := by exact bc uu3 Tryz.runUnderlying348 rfl (r := ((x.length : Nat) : Int)) (by rw [IntKind.wrap_u64]; first | omega | grind))) <| (xk (nb x.length og)) <| (W) ?_; clear h ac; intro ac wo h
 refine on1 h 0 rfl (uI (vs := [xv, (.int .i64 0), (.int .i64 ((x.length : Nat) : Int)), (.int .i64 (fF x.length)), (.func (.func 268) #[] #[])]) (A := fun v => [.row (α := Ev) 332 xv (bM x 0 x.length (fF x.length))]) (dl Tryz.call307 rfl) (fun w_ B_ hB_ hS_ => iL x xv 0 x.length (fF x.length) og og og og zx w0 w_ B_ hB_ hS_ )) rfl ?_; clear h ac wo; intro vc ac wo s2 h
 obtain rfl : vc = _ := s2.1
 have p3 := s2.2.2
 have hd : bN x = (bM x 0 x.length (fF x.length)) := rfl
 refine gz h <| (W) ?_; clear h ac wo; intro ac wo h
 exact retN (vs := []) h rfl .nil rfl ((h.pick [0, 1] (by decide)).retY ⟨rfl, (by rw [hd]; exact ⟨s2.2.1, og⟩)⟩ (by rw [hd]; rfl))
attribute [irreducible] bN
end Go.Sx
namespace Go.Sx
def kB [K : Key] (b : Bd) : Nat := 2 * tk b.at_ + (bif b.behind then 1 else 0)
theorem bb (b : Bool) : (bif b then 1 else 0 : Nat) ≤ 1 := by cases b <;> decide
theorem cmpB [K : Key] {a b : Bd} (ha : Tm a.at_) (hb : Tm b.at_) : aI a b = sgn (kB a) (kB b) := by
  unfold aI kB
  rw [ha.cmp hb]
  have h1 := bb a.behind
  have h2 := bb b.behind
  rcases Nat.lt_trichotomy (tk a.at_) (tk b.at_) with e | e | e
  · rw [iO e, iO (by omega)]; rfl
  · rw [e, fI]
    cases a.behind <;> cases b.behind
    · rw [fI]; rfl
    · rw [iO (by simp)]; rfl
    · rw [jj (by simp)]; rfl
    · rw [fI]; rfl
  · rw [jj e, jj (by omega)]; rfl
theorem kB_inj [K : Key] {a b : Bd} (ha : Tm a.at_) (hb : Tm b.at_) (h : kB a = kB b) : a = b := by
  unfold kB at h
  have h1 := bb a.behind
  have h2 := bb b.behind
  have e : tk a.at_ = tk b.at_ := by omega
  have e2 := (ha.inj hb).1 e
  have e3 : a.behind = b.behind := by
    rw [e] at h
    cases ha : a.behind <;> cases hb : b.behind <;> rw [ha, hb] at h <;> simp at h <;> rfl
  obtain ⟨x, y⟩ := a
  obtain ⟨z, w⟩ := b
  simp only at e2 e3
  rw [e2, e3]
theorem pf (i : Iv) : aw i = ⟨i.lo, i.openLo⟩ := by unfold aw; rfl
theorem pl (i : Iv) : aB i = ⟨i.hi, !i.openHi⟩ := by unfold aB; rfl
theorem kS [K : Key] (i : Iv) : kB (aw i) = e6 i := by rw [pf]; rfl
theorem lC [K : Key] (i : Iv) : (kB (aB i) : Int) = fl i + 1 := by
  unfold kB aB fl
  simp only
  cases i.openHi <;> simp <;> omega
theorem Wv.bd [K : Key] {i : Iv} (h : Wv i) : kB (aw i) < kB (aB i) := by
  have h1 := h.le
  have h2 := lC i
  rw [kS]; omega
theorem wv_of [K : Key] {i : Iv} (h : Tv i) (hlt : kB (aw i) < kB (aB i)) : Wv i := by
  rw [pf, pl] at hlt
  have hlt : 2 * tk i.lo + (bif i.openLo then 1 else 0) < 2 * tk i.hi + (bif !i.openHi then 1 else 0) := hlt
  have h1 := bb i.openLo
  have h2 := bb (!i.openHi)
  refine ⟨h, by omega, fun e => ?_⟩
  rw [e] at hlt
  revert hlt
  cases i.openLo <;> cases i.openHi <;> simp
theorem qI (a b : Bd) : aw (bL a b) = a := by
  unfold aw bL; rfl
theorem tj (a b : Bd) : aB (bL a b) = b := by
  unfold aB bL
  simp only [Bool.not_not]
theorem iv_ext [K : Key] {i j : Iv} (hi : Tv i) (hj : Tv j) (h1 : kB (aw i) = kB (aw j)) (h2 : kB (aB i) = kB (aB j)) : i = j := by
  have e1 := kB_inj (a := aw i) (b := aw j) (by rw [pf]; exact hi.1) (by rw [pf]; exact hj.1) h1
  have e2 := kB_inj (a := aB i) (b := aB j) (by rw [pl]; exact hi.2) (by rw [pl]; exact hj.2) h2
  rw [pf, pf, Bd.mk.injEq] at e1
  rw [pl, pl, Bd.mk.injEq] at e2
  obtain ⟨lo, hi', ol, oh⟩ := i
  obtain ⟨lo2, hi2, ol2, oh2⟩ := j
  simp only at e1 e2
  obtain ⟨rfl, rfl⟩ := e1
  obtain ⟨rfl, e3⟩ := e2
  rw [show oh = oh2 by cases oh <;> cases oh2 <;> first | rfl | cases e3]
end Go.Sx
namespace Go.Sx
def inI [K : Key] (i : Iv) (x : Nat) : Prop := kB (aw i) ≤ x ∧ x < kB (aB i)
def inP [K : Key] (p : List Iv) (x : Nat) : Prop := ∃ i ∈ p, inI i x
structure Cn [K : Key] (p : List Iv) : Prop where
  wv : ∀ i ∈ p, Wv i
  sep : p.Pairwise fun i j => kB (aB i) < kB (aw j)
theorem lE [K : Key] (x : Nat) : ¬ inP [] x := fun ⟨_, h, _⟩ => by cases h
theorem dP [K : Key] {i : Iv} {p : List Iv} {x : Nat} : inP (i :: p) x ↔ inI i x ∨ inP p x := by
  constructor
  · rintro ⟨j, hj, h⟩
    rcases List.mem_cons.1 hj with rfl | hj
    · exact .inl h
    · exact .inr ⟨j, hj, h⟩
  · rintro (h | ⟨j, hj, h⟩)
    · exact ⟨i, List.mem_cons_self .., h⟩
    · exact ⟨j, List.mem_cons_of_mem _ hj, h⟩
theorem inP_app [K : Key] {p q : List Iv} {x : Nat} : inP (p ++ q) x ↔ inP p x ∨ inP q x := by
  constructor
  · rintro ⟨j, hj, h⟩
    rcases List.mem_append.1 hj with hj | hj
    · exact .inl ⟨j, hj, h⟩
    · exact .inr ⟨j, hj, h⟩
  · rintro (⟨j, hj, h⟩ | ⟨j, hj, h⟩)
    · exact ⟨j, List.mem_append_left _ hj, h⟩
    · exact ⟨j, List.mem_append_right _ hj, h⟩
theorem Cn.nil [K : Key] : Cn [] := ⟨fun _ h => (by cases h), List.Pairwise.nil⟩
theorem Cn.tail [K : Key] {i : Iv} {p : List Iv} (h : Cn (i :: p)) : Cn p ∧ (∀ j ∈ p, kB (aB i) < kB (aw j)) ∧ Wv i := by
  have h2 := List.pairwise_cons.1 h.sep
  exact ⟨⟨fun j hj => h.wv j (List.mem_cons_of_mem _ hj), h2.2⟩, h2.1, h.wv i (List.mem_cons_self ..)⟩
theorem Cn.behind [K : Key] {i : Iv} {p : List Iv} (h : Cn (i :: p)) {x : Nat} (hx : inP p x) : kB (aB i) < x := by
  obtain ⟨j, hj, h1, _⟩ := hx
  have := h.tail.2.1 j hj
  omega
theorem Cn.ext [K : Key] : ∀ {p q : List Iv}, Cn p → Cn q → (∀ x, inP p x ↔ inP q x) → p = q
  | [], [], _, _, _ => rfl
  | [], j :: q, _, hq, h => absurd ((h _).2 (dP.2 (.inl ⟨Nat.le_refl _, (hq.tail.2.2).bd⟩))) (lE _)
  | i :: p, [], hp, _, h => absurd ((h _).1 (dP.2 (.inl ⟨Nat.le_refl _, (hp.tail.2.2).bd⟩))) (lE _)
  | i :: p, j :: q, hp, hq, h => by
    have wi := hp.tail.2.2
    have wj := hq.tail.2.2
    have bi := wi.bd
    have bj := wj.bd
    have f1 : kB (aw j) ≤ kB (aw i) := by
      rcases dP.1 ((h _).1 (dP.2 (.inl ⟨Nat.le_refl _, bi⟩))) with h1 | h1
      · exact h1.1
      · have := hq.behind h1; omega
    have f2 : kB (aw i) ≤ kB (aw j) := by
      rcases dP.1 ((h _).2 (dP.2 (.inl ⟨Nat.le_refl _, bj⟩))) with h1 | h1
      · exact h1.1
      · have := hp.behind h1; omega
    have l1 : ¬ kB (aB i) < kB (aB j) := fun hl => by
      rcases dP.1 ((h (kB (aB i))).2 (dP.2 (.inl ⟨by omega, hl⟩))) with h1 | h1
      · have := h1.2; omega
      · have := hp.behind h1; omega
    have l2 : ¬ kB (aB j) < kB (aB i) := fun hl => by
      rcases dP.1 ((h (kB (aB j))).1 (dP.2 (.inl ⟨by omega, hl⟩))) with h1 | h1
      · have := h1.2; omega
      · have := hq.behind h1; omega
    have e : i = j := iv_ext wi.1 wj.1 (by omega) (by omega)
    subst e
    rw [Cn.ext hp.tail.1 hq.tail.1 fun x => ⟨fun hx => ?_, fun hx => ?_⟩]
    · rcases dP.1 ((h x).1 (dP.2 (.inr hx))) with h1 | h1
      · have := hp.behind hx; have := h1.2; omega
      · exact h1
    · rcases dP.1 ((h x).2 (dP.2 (.inr hx))) with h1 | h1
      · have := hq.behind hx; have := h1.2; omega
      · exact h1
def sm [K : Key] (c : Ev → Int) : List Ev → Nat → Int
  | [], _ => 0
  | e :: r, x => (if kB e.at_ ≤ x then c e else 0) + sm c r x
def rs (c : Ev → Int) : List Ev → Int
  | [] => 0
  | e :: r => c e + rs c r
variable {c : Ev → Int}
theorem vO [K : Key] (a b : List Ev) (x : Nat) : sm c (a ++ b) x = sm c a x + sm c b x := by
  induction a with
  | nil => show sm c b x = 0 + sm c b x; omega
  | cons e a ih => show (if kB e.at_ ≤ x then c e else 0) + sm c (a ++ b) x = (if kB e.at_ ≤ x then c e else 0) + sm c a x + sm c b x; rw [ih]; omega
theorem tM (a b : List Ev) : rs c (a ++ b) = rs c a + rs c b := by
  induction a with
  | nil => show rs c b = 0 + rs c b; omega
  | cons e a ih => show c e + rs c (a ++ b) = c e + rs c a + rs c b; rw [ih]; omega
theorem vM [K : Key] {a b : List Ev} (h : a.Perm b) (x : Nat) : sm c a x = sm c b x := by
  induction h with
  | nil => rfl
  | cons e _ ih => show _ + _ = _ + _; rw [ih]
  | swap e e' l => show (if kB e'.at_ ≤ x then c e' else 0) + ((if kB e.at_ ≤ x then c e else 0) + sm c l x) = (if kB e.at_ ≤ x then c e else 0) + ((if kB e'.at_ ≤ x then c e' else 0) + sm c l x); omega
  | trans _ _ h1 h2 => rw [h1, h2]
theorem wm {a b : List Ev} (h : a.Perm b) : rs c a = rs c b := by
  induction h with
  | nil => rfl
  | cons e _ ih => show _ + _ = _ + _; rw [ih]
  | swap e e' l => show c e' + (c e + rs c l) = c e + (c e' + rs c l); omega
  | trans _ _ h1 h2 => rw [h1, h2]
theorem vP [K : Key] {a : List Ev} {x : Nat} (h : ∀ e ∈ a, kB e.at_ ≤ x) : sm c a x = rs c a := by
  induction a with
  | nil => rfl
  | cons e a ih =>
    show (if kB e.at_ ≤ x then c e else 0) + sm c a x = c e + rs c a
    rw [if_pos (h e (List.mem_cons_self ..)), ih fun e' he => h e' (List.mem_cons_of_mem _ he)]
theorem su [K : Key] {a : List Ev} {x : Nat} (h : ∀ e ∈ a, x < kB e.at_) : sm c a x = 0 := by
  induction a with
  | nil => rfl
  | cons e a ih =>
    show (if kB e.at_ ≤ x then c e else 0) + sm c a x = 0
    rw [if_neg (by have := h e (List.mem_cons_self ..); omega), ih fun e' he => h e' (List.mem_cons_of_mem _ he)]
    rfl
def far [K : Key] : List Ev → Nat
  | [] => 0
  | e :: r => kB e.at_ + far r
theorem xC [K : Key] : ∀ {a : List Ev}, ∀ e ∈ a, kB e.at_ ≤ far a
  | [], _, h => by cases h
  | e' :: a, e, h => by
    rcases List.mem_cons.1 h with rfl | h
    · exact Nat.le_add_right _ _
    · exact Nat.le_trans (xC e h) (Nat.le_add_left _ _)
def nxe (e : Ev) : List Ev → Bool
  | [] => false
  | e2 :: _ => aI e.at_ e2.at_ == 0
def swS (keep : Bool → Bool → Bool) : List Ev → List Iv → Bool → Bd → Int → Int → List Iv
  | [], out, _, _, _, _ => out
  | e :: r, out, in_, fr, n0, n1 =>
    bif (nxe e r) then swS keep r out in_ fr (n0 + e.b0) (n1 + e.b1)
    else bif (keep (decide (n0 + e.b0 > 0)) (decide (n1 + e.b1 > 0))) && !in_ then swS keep r out (keep (decide (n0 + e.b0 > 0)) (decide (n1 + e.b1 > 0))) e.at_ (n0 + e.b0) (n1 + e.b1)
    else bif (!(keep (decide (n0 + e.b0 > 0)) (decide (n1 + e.b1 > 0)))) && in_ then swS keep r (out ++ [bL fr e.at_]) (keep (decide (n0 + e.b0 > 0)) (decide (n1 + e.b1 > 0))) fr (n0 + e.b0) (n1 + e.b1)
    else swS keep r out (keep (decide (n0 + e.b0 > 0)) (decide (n1 + e.b1 > 0))) fr (n0 + e.b0) (n1 + e.b1)
theorem eqz [K : Key] {a b : Bd} (ha : Tm a.at_) (hb : Tm b.at_) : (aI a b == 0) = decide (kB a = kB b) := by
  rw [cmpB ha hb]
  by_cases e : kB a = kB b
  · rw [e, fI, decide_eq_true rfl]; rfl
  · rw [decide_eq_false e]
    exact beq_eq_false_iff_ne.2 fun h => e (sgn_zero.1 h)
theorem not_in [K : Key] {out : List Iv} {y x : Nat} (h : ∀ i ∈ out, kB (aB i) < y) (hx : y ≤ x) : ¬ inP out x := fun ⟨i, hi, _, h2⟩ => by have := h i hi; omega
def b0c : Ev → Int := fun e => e.b0
def b1c : Ev → Int := fun e => e.b1
theorem vH [K : Key] {keep : Bool → Bool → Bool} {S : List Ev} (hT : ∀ e ∈ S, Tm e.at_.at_) (hs : S.Pairwise fun a b => kB a.at_ ≤ kB b.at_) (hend : keep (decide (rs b0c S > 0)) (decide (rs b1c S > 0)) = false) :
    ∀ (s p : List Ev) (out : List Iv) (in_ : Bool) (fr : Bd) (n0 n1 : Int), S = p ++ s → n0 = rs b0c p → n1 = rs b1c p →
      (∀ x, (∀ e ∈ s, x < kB e.at_) → ((inP out x ∨ (in_ = true ∧ kB fr ≤ x)) ↔ keep (decide (sm b0c S x > 0)) (decide (sm b1c S x > 0)) = true)) →
      Cn out → (∀ i ∈ out, ∀ e ∈ s, kB (aB i) < kB e.at_) →
      (in_ = true → Tm fr.at_ ∧ (∀ e ∈ s, kB fr < kB e.at_) ∧ ∀ i ∈ out, kB (aB i) < kB fr) →
      Cn (swS keep s out in_ fr n0 n1) ∧ ∀ x, inP (swS keep s out in_ fr n0 n1) x ↔ keep (decide (sm b0c S x > 0)) (decide (sm b1c S x > 0)) = true
  | [], p, out, in_, fr, n0, n1, hS, _, _, hR, hC, _, hI => by
    refine ⟨hC, fun x => ?_⟩
    show inP out x ↔ _
    cases in_ with
    | false =>
      rw [← hR x (fun _ h => by cases h)]
      exact ⟨.inl, fun h => h.resolve_right fun h => by cases h.1⟩
    | true =>
      exfalso
      have h1 := (hR (kB fr + far S) (fun _ h => by cases h)).1 (.inr ⟨rfl, Nat.le_add_right _ _⟩)
      rw [vP (fun e he => Nat.le_trans (xC e he) (Nat.le_add_left _ _)), vP (fun e he => Nat.le_trans (xC e he) (Nat.le_add_left _ _)), hend] at h1
      cases h1
  | e :: r, p, out, in_, fr, n0, n1, hS, hn0, hn1, hR, hC, hL, hI => by
    have hS2 : S = (p ++ [e]) ++ r := by rw [hS]; simp
    have hTe := hT e (by rw [hS]; simp)
    have hm0 : n0 + e.b0 = rs b0c (p ++ [e]) := by rw [tM, hn0]; show _ = rs b0c p + (e.b0 + 0); omega
    have hm1 : n1 + e.b1 = rs b1c (p ++ [e]) := by rw [tM, hn1]; show _ = rs b1c p + (e.b1 + 0); omega
    have hs2 := hs
    rw [hS2, List.pairwise_append] at hs2
    have hpe : ∀ e' ∈ p ++ [e], kB e'.at_ ≤ kB e.at_ := fun e' he' => by
      have h1 := hs
      rw [hS, List.pairwise_append] at h1
      rcases List.mem_append.1 he' with h2 | h2
      · exact h1.2.2 e' h2 e (List.mem_cons_self ..)
      · rw [List.mem_singleton.1 h2]; exact Nat.le_refl _
    have her : ∀ e' ∈ r, kB e.at_ ≤ kB e'.at_ := fun e' he' => hs2.2.2 e (by simp) e' he'
    cases ht : nxe e r with
    | true =>
      obtain ⟨e2, r2, rfl⟩ : ∃ e2 r2, r = e2 :: r2 := by
        cases r with
        | nil => cases ht
        | cons e2 r2 => exact ⟨e2, r2, rfl⟩
      have hk : kB e.at_ = kB e2.at_ := by
        have ht : (aI e.at_ e2.at_ == 0) = true := ht
        rw [eqz hTe (hT e2 (by rw [hS]; simp)), decide_eq_true_eq] at ht
        exact ht
      rw [show swS keep (e :: e2 :: r2) out in_ fr n0 n1 = swS keep (e2 :: r2) out in_ fr (n0 + e.b0) (n1 + e.b1) by
        show (bif (nxe e (e2 :: r2)) then _ else _) = _
        rw [ht]; rfl]
      refine vH hT hs hend (e2 :: r2) (p ++ [e]) out in_ fr _ _ hS2 hm0 hm1 (fun x hx => hR x fun e' he' => ?_) hC (fun i hi e' he' => hL i hi e' (List.mem_cons_of_mem _ he')) (fun hin => ⟨(hI hin).1, fun e' he' => (hI hin).2.1 e' (List.mem_cons_of_mem _ he'), (hI hin).2.2⟩)
      rcases List.mem_cons.1 he' with rfl | he'
      · rw [hk]; exact hx e2 (List.mem_cons_self ..)
      · exact hx e' he'
    | false =>
      have hgt : ∀ e' ∈ r, kB e.at_ < kB e'.at_ := fun e' he' => by
        cases r with
        | nil => cases he'
        | cons e2 r2 =>
          have ht : (aI e.at_ e2.at_ == 0) = false := ht
          rw [eqz hTe (hT e2 (by rw [hS]; simp)), decide_eq_false_iff_not] at ht
          have h1 := her e2 (List.mem_cons_self ..)
          have h2 := List.pairwise_cons.1 hs2.2.1
          rcases List.mem_cons.1 he' with rfl | he'
          · omega
          · have := h2.1 e' he'; omega
      have hK : ∀ x, kB e.at_ ≤ x → (∀ e' ∈ r, x < kB e'.at_) → keep (decide (sm b0c S x > 0)) (decide (sm b1c S x > 0)) = keep (decide (n0 + e.b0 > 0)) (decide (n1 + e.b1 > 0)) := fun x h1 h2 => by
        have q : ∀ c : Ev → Int, sm c S x = rs c (p ++ [e]) := fun c => by
          rw [hS2, vO, vP (fun e' he' => Nat.le_trans (hpe e' he') h1), su h2]; omega
        rw [q, q, hm0, hm1]
      have hlow : ∀ x, x < kB e.at_ → ∀ e' ∈ e :: r, x < kB e'.at_ := fun x hx e' he' => by
        rcases List.mem_cons.1 he' with rfl | he'
        · exact hx
        · have := her e' he'; omega
      have hLe : ∀ i ∈ out, kB (aB i) < kB e.at_ := fun i hi => hL i hi e (List.mem_cons_self ..)
      have hLr : ∀ i ∈ out, ∀ e' ∈ r, kB (aB i) < kB e'.at_ := fun i hi e' he' => hL i hi e' (List.mem_cons_of_mem _ he')
      have ih := fun out in_ fr => vH hT hs hend r (p ++ [e]) out in_ fr _ _ hS2 hm0 hm1
      rw [show swS keep (e :: r) out in_ fr n0 n1 = bif (keep (decide (n0 + e.b0 > 0)) (decide (n1 + e.b1 > 0))) && !in_ then swS keep r out (keep (decide (n0 + e.b0 > 0)) (decide (n1 + e.b1 > 0))) e.at_ (n0 + e.b0) (n1 + e.b1)
        else bif (!(keep (decide (n0 + e.b0 > 0)) (decide (n1 + e.b1 > 0)))) && in_ then swS keep r (out ++ [bL fr e.at_]) (keep (decide (n0 + e.b0 > 0)) (decide (n1 + e.b1 > 0))) fr (n0 + e.b0) (n1 + e.b1)
        else swS keep r out (keep (decide (n0 + e.b0 > 0)) (decide (n1 + e.b1 > 0))) fr (n0 + e.b0) (n1 + e.b1) by
        show (bif (nxe e r) then _ else _) = _
        rw [ht]; rfl]
      revert hK
      generalize keep (decide (n0 + e.b0 > 0)) (decide (n1 + e.b1 > 0)) = now
      intro hK
      have hall : ∀ x, x < kB e.at_ ∨ kB e.at_ ≤ x := fun x => Nat.lt_or_ge x _
      cases now with
      | true =>
        cases in_ with
        | false =>
          refine ih out true e.at_ (fun x hx => ?_) hC hLr (fun _ => ⟨hTe, hgt, hLe⟩)
          rcases hall x with h1 | h1
          · rw [← hR x (hlow x h1)]
            exact ⟨fun h => .inl (h.resolve_right fun h => by have := h.2; omega), fun h => .inl (h.resolve_right fun h => by cases h.1)⟩
          · rw [hK x h1 hx]
            exact ⟨fun _ => rfl, fun _ => .inr ⟨rfl, h1⟩⟩
        | true =>
          obtain ⟨i1, i2, i3⟩ := hI rfl
          refine ih out true fr (fun x hx => ?_) hC hLr (fun _ => ⟨i1, fun e' he' => i2 e' (List.mem_cons_of_mem _ he'), i3⟩)
          rcases hall x with h1 | h1
          · exact hR x (hlow x h1)
          · rw [hK x h1 hx]
            have := i2 e (List.mem_cons_self ..)
            exact ⟨fun _ => rfl, fun _ => .inr ⟨rfl, by omega⟩⟩
      | false =>
        cases in_ with
        | false =>
          refine ih out false fr (fun x hx => ?_) hC hLr (fun h => by cases h)
          rcases hall x with h1 | h1
          · exact hR x (hlow x h1)
          · rw [hK x h1 hx]
            exact ⟨fun h => h.elim (fun h => absurd h (not_in hLe h1)) fun h => (by cases h.1), fun h => (by cases h)⟩
        | true =>
          obtain ⟨i1, i2, i3⟩ := hI rfl
          have hfe := i2 e (List.mem_cons_self ..)
          have hin : ∀ x, inI (bL fr e.at_) x ↔ (kB fr ≤ x ∧ x < kB e.at_) := fun x => by unfold inI; rw [qI, tj]
          have hw : Wv (bL fr e.at_) := by
            refine wv_of ⟨?_, ?_⟩ (by rw [qI, tj]; exact hfe)
            · unfold bL; exact i1
            · unfold bL; exact hTe
          refine ih (out ++ [bL fr e.at_]) false fr (fun x hx => ?_) ⟨fun i hi => ?_, ?_⟩ (fun i hi e' he' => ?_) (fun h => by cases h)
          · have hx2 : inP (out ++ [bL fr e.at_]) x ↔ inP out x ∨ (kB fr ≤ x ∧ x < kB e.at_) := by
              rw [inP_app, dP, hin]
              exact ⟨fun h => h.imp id fun h => h.resolve_right (lE x), fun h => h.imp id .inl⟩
            rw [hx2]
            rcases hall x with h1 | h1
            · rw [← hR x (hlow x h1)]
              constructor
              · rintro ((h | h) | h)
                · exact .inl h
                · exact .inr ⟨rfl, h.1⟩
                · cases h.1
              · rintro (h | h)
                · exact .inl (.inl h)
                · exact .inl (.inr ⟨h.2, h1⟩)
            · rw [hK x h1 hx]
              constructor
              · rintro ((h | h) | h)
                · exact absurd h (not_in hLe h1)
                · omega
                · cases h.1
              · intro h; cases h
          · rcases List.mem_append.1 hi with hi | hi
            · exact hC.wv i hi
            · rw [List.mem_singleton.1 hi]; exact hw
          · rw [List.pairwise_append]
            refine ⟨hC.sep, List.pairwise_singleton _ _, fun i hi j hj => ?_⟩
            rw [List.mem_singleton.1 hj, qI]
            exact i3 i hi
          · rcases List.mem_append.1 hi with hi | hi
            · exact hLr i hi e' he'
            · rw [List.mem_singleton.1 hi, tj]
              exact hgt e' he'
def evA (a : List Iv) : List Ev := a.flatMap fun i => [⟨aw i, 1, 0⟩, ⟨aB i, -1, 0⟩]
def evB (b : List Iv) : List Ev := b.flatMap fun i => [⟨aw i, 0, 1⟩, ⟨aB i, 0, -1⟩]
theorem uj [K : Key] {i : Iv} (h : Wv i) (x : Nat) : (if kB (aw i) ≤ x then (1 : Int) else 0) + ((if kB (aB i) ≤ x then (-1 : Int) else 0)) = if kB (aw i) ≤ x ∧ x < kB (aB i) then 1 else 0 := by
  have := h.bd
  by_cases h1 : kB (aw i) ≤ x
  · by_cases h2 : kB (aB i) ≤ x
    · rw [if_pos h1, if_pos h2, if_neg (by omega)]; rfl
    · rw [if_pos h1, if_neg h2, if_pos ⟨h1, by omega⟩]; rfl
  · rw [if_neg h1, if_neg (by omega), if_neg (by omega)]; rfl
theorem evA_sm [K : Key] : ∀ {a : List Iv}, (∀ i ∈ a, Wv i) → ∀ x, 0 ≤ sm b0c (evA a) x ∧ (0 < sm b0c (evA a) x ↔ inP a x)
  | [], _, x => ⟨Int.le_refl _, ⟨fun h => absurd h (Int.lt_irrefl _), fun h => absurd h (lE x)⟩⟩
  | i :: a, h, x => by
    obtain ⟨h1, h2⟩ := evA_sm (a := a) (fun j hj => h j (List.mem_cons_of_mem _ hj)) x
    have e : sm b0c (evA (i :: a)) x = ((if kB (aw i) ≤ x then (1 : Int) else 0) + ((if kB (aB i) ≤ x then (-1 : Int) else 0))) + sm b0c (evA a) x := by
      show (if kB (aw i) ≤ x then (1 : Int) else 0) + ((if kB (aB i) ≤ x then (-1 : Int) else 0) + sm b0c (evA a) x) = _
      omega
    rw [e, uj (h i (List.mem_cons_self ..)), dP, ← h2]
    unfold inI
    by_cases h3 : kB (aw i) ≤ x ∧ x < kB (aB i)
    · rw [if_pos h3]; exact ⟨by omega, ⟨fun _ => .inl h3, fun _ => by omega⟩⟩
    · rw [if_neg h3]; exact ⟨by omega, ⟨fun h4 => .inr (by omega), fun h4 => by have := h4.resolve_left h3; omega⟩⟩
theorem evB_sm [K : Key] : ∀ {a : List Iv}, (∀ i ∈ a, Wv i) → ∀ x, 0 ≤ sm b1c (evB a) x ∧ (0 < sm b1c (evB a) x ↔ inP a x)
  | [], _, x => ⟨Int.le_refl _, ⟨fun h => absurd h (Int.lt_irrefl _), fun h => absurd h (lE x)⟩⟩
  | i :: a, h, x => by
    obtain ⟨h1, h2⟩ := evB_sm (a := a) (fun j hj => h j (List.mem_cons_of_mem _ hj)) x
    have e : sm b1c (evB (i :: a)) x = ((if kB (aw i) ≤ x then (1 : Int) else 0) + ((if kB (aB i) ≤ x then (-1 : Int) else 0))) + sm b1c (evB a) x := by
      show (if kB (aw i) ≤ x then (1 : Int) else 0) + ((if kB (aB i) ≤ x then (-1 : Int) else 0) + sm b1c (evB a) x) = _
      omega
    rw [e, uj (h i (List.mem_cons_self ..)), dP, ← h2]
    unfold inI
    by_cases h3 : kB (aw i) ≤ x ∧ x < kB (aB i)
    · rw [if_pos h3]; exact ⟨by omega, ⟨fun _ => .inl h3, fun _ => by omega⟩⟩
    · rw [if_neg h3]; exact ⟨by omega, ⟨fun h4 => .inr (by omega), fun h4 => by have := h4.resolve_left h3; omega⟩⟩
theorem evA_0 [K : Key] : ∀ (a : List Iv) (x : Nat), sm b1c (evA a) x = 0 ∧ rs b1c (evA a) = 0 ∧ rs b0c (evA a) = 0
  | [], _ => ⟨rfl, rfl, rfl⟩
  | i :: a, x => by
    obtain ⟨h1, h2, h3⟩ := evA_0 a x
    refine ⟨?_, ?_, ?_⟩
    · show (if kB (aw i) ≤ x then (0 : Int) else 0) + ((if kB (aB i) ≤ x then (0 : Int) else 0) + sm b1c (evA a) x) = 0
      rw [h1]; simp
    · show (0 : Int) + (0 + rs b1c (evA a)) = 0
      rw [h2]; rfl
    · show (1 : Int) + (-1 + rs b0c (evA a)) = 0
      rw [h3]; rfl
theorem evB_0 [K : Key] : ∀ (a : List Iv) (x : Nat), sm b0c (evB a) x = 0 ∧ rs b0c (evB a) = 0 ∧ rs b1c (evB a) = 0
  | [], _ => ⟨rfl, rfl, rfl⟩
  | i :: a, x => by
    obtain ⟨h1, h2, h3⟩ := evB_0 a x
    refine ⟨?_, ?_, ?_⟩
    · show (if kB (aw i) ≤ x then (0 : Int) else 0) + ((if kB (aB i) ≤ x then (0 : Int) else 0) + sm b0c (evB a) x) = 0
      rw [h1]; simp
    · show (0 : Int) + (0 + rs b0c (evB a)) = 0
      rw [h2]; rfl
    · show (1 : Int) + (-1 + rs b1c (evB a)) = 0
      rw [h3]; rfl
theorem xF [K : Key] {a b : List Iv} (ha : ∀ i ∈ a, Wv i) (hb : ∀ i ∈ b, Wv i) : ∀ e ∈ evA a ++ evB b, Tm e.at_.at_ := fun e he => by
  rcases List.mem_append.1 he with he | he
  · obtain ⟨i, hi, he⟩ := List.mem_flatMap.1 he
    have := (ha i hi).1
    rcases List.mem_cons.1 he with rfl | he
    · show Tm (aw i).at_; rw [pf]; exact this.1
    · rw [List.mem_singleton.1 he]; show Tm (aB i).at_; rw [pl]; exact this.2
  · obtain ⟨i, hi, he⟩ := List.mem_flatMap.1 he
    have := (hb i hi).1
    rcases List.mem_cons.1 he with rfl | he
    · show Tm (aw i).at_; rw [pf]; exact this.1
    · rw [List.mem_singleton.1 he]; show Tm (aB i).at_; rw [pl]; exact this.2
open Classical in
theorem nE [K : Key] {keep : Bool → Bool → Bool} (hk : keep false false = false) {a b : List Iv} (ha : ∀ i ∈ a, Wv i) (hb : ∀ i ∈ b, Wv i) {S : List Ev} (hp : S.Perm (evA a ++ evB b)) (hs : S.Pairwise fun a b => kB a.at_ ≤ kB b.at_) (fr : Bd) :
    Cn (swS keep S [] false fr 0 0) ∧ ∀ x, inP (swS keep S [] false fr 0 0) x ↔ keep (decide (inP a x)) (decide (inP b x)) = true := by
  have hT : ∀ e ∈ S, Tm e.at_.at_ := fun e he => xF ha hb e (hp.mem_iff.1 he)
  have h0 : ∀ x, sm b0c S x = sm b0c (evA a) x := fun x => by rw [vM hp, vO, (evB_0 b x).1]; omega
  have h1 : ∀ x, sm b1c S x = sm b1c (evB b) x := fun x => by rw [vM hp, vO, (evA_0 a x).1]; omega
  have hend : keep (decide (rs b0c S > 0)) (decide (rs b1c S > 0)) = false := by
    rw [wm hp, wm hp, tM, tM, (evA_0 a 0).2.2, (evB_0 b 0).2.1, (evA_0 a 0).2.1, (evB_0 b 0).2.2]
    exact hk
  have hx : ∀ x, keep (decide (sm b0c S x > 0)) (decide (sm b1c S x > 0)) = keep (decide (inP a x)) (decide (inP b x)) := fun x => by
    rw [h0, h1, decide_eq_decide.2 (evA_sm ha x).2, decide_eq_decide.2 (evB_sm hb x).2]
  obtain ⟨r1, r2⟩ := vH hT hs hend S [] [] false fr 0 0 rfl rfl rfl (fun x hx2 => by
    rw [su hx2, su hx2]
    constructor
    · rintro (h | h)
      · exact absurd h (lE x)
      · cases h.1
    · intro h
      rw [show decide ((0 : Int) > 0) = false from rfl, hk] at h; cases h) Cn.nil (fun _ h => by cases h) (fun h => by cases h)
  exact ⟨r1, fun x => by rw [r2, hx]⟩
end Go.Sx
namespace Go.Proofs
open Go.Shelf
def Tryz.laysSort_ren : Go.Shelf.Ren := ⟨fun | 6 => 267 | 15 => 308 | 14 => 307 | 28 => 312 | 29 => 272 | 20 => 335 | 21 => 336 | 22 => 337 | 23 => 338 | 24 => 339 | 25 => 340 | 26 => 341 | 27 => 342 | 46 => 359 | 47 => 360 | 48 => 361 | 49 => 362 | 50 => 363 | 57 => 374 | n => n, fun | 22 => 329 | 24 => 332 | 25 => 334 | 3 => 3 | 39 => 348 | 0 => 0 | 53 => 343 | 55 => 260 | 4 => 4 | 46 => 393 | 45 => 392 | 50 => 183 | 5 => 5 | 9 => 9 | 66 => 420 | 70 => 187 | 76 => 434 | 77 => 435 | n => n, fun | n => n⟩
theorem Tryz.laysSort : Go.Proofs.SlLaysF0.n6 Tryz.prog Tryz.laysSort_ren := {
  mixed := by kernel_rfl
  f6 := ⟨Tryz.f267.name, by decide, Tryz.func267.trans (congrArg some (by kernel_rfl))⟩
  f14 := ⟨Tryz.f307.name, by decide, Tryz.func307.trans (congrArg some (by kernel_rfl))⟩
  f15 := Tryz.func308.trans (congrArg some (by kernel_rfl))
  f20 := ⟨Tryz.f335.name, by decide, Tryz.func335.trans (congrArg some (by kernel_rfl))⟩
  f21 := ⟨Tryz.f336.name, by decide, Tryz.func336.trans (congrArg some (by kernel_rfl))⟩
  f22 := ⟨Tryz.f337.name, by decide, Tryz.func337.trans (congrArg some (by kernel_rfl))⟩
  f23 := ⟨Tryz.f338.name, by decide, Tryz.func338.trans (congrArg some (by kernel_rfl))⟩
  f24 := ⟨Tryz.f339.name, by decide, Tryz.func339.trans (congrArg some (by kernel_rfl))⟩
  f25 := ⟨Tryz.f340.name, by decide, Tryz.func340.trans (congrArg some (by kernel_rfl))⟩
  f26 := ⟨Tryz.f341.name, by decide, Tryz.func341.trans (congrArg some (by kernel_rfl))⟩
  f27 := ⟨Tryz.f342.name, by decide, Tryz.func342.trans (congrArg some (by kernel_rfl))⟩
  f28 := Tryz.func312.trans (congrArg some (by kernel_rfl))
  f29 := Tryz.func272.trans (congrArg some (by kernel_rfl))
  f46 := ⟨Tryz.f359.name, by decide, Tryz.func359.trans (congrArg some (by kernel_rfl))⟩
  f47 := Tryz.func360.trans (congrArg some (by kernel_rfl))
  f48 := Tryz.func361.trans (congrArg some (by kernel_rfl))
  f49 := ⟨Tryz.f362.name, by decide, Tryz.func362.trans (congrArg some (by kernel_rfl))⟩
  f50 := ⟨Tryz.f363.name, by decide, Tryz.func363.trans (congrArg some (by kernel_rfl))⟩
  f57 := ⟨Tryz.f374.name, by decide, Tryz.func374.trans (congrArg some (by kernel_rfl))⟩
  t0 := Tryz.underlying0
  a0 := Tryz.isAgg0
  z0 := Tryz.sizeOf0
  v0 := Tryz.zeroValue0
  t3 := Tryz.underlying3
  a3 := Tryz.isAgg3
  z3 := Tryz.sizeOf3
  v3 := Tryz.zeroValue3
  t4 := Tryz.underlying4
  a4 := Tryz.isAgg4
  z4 := Tryz.sizeOf4
  v4 := Tryz.zeroValue4
  t5 := Tryz.underlying5
  a5 := Tryz.isAgg5
  z5 := Tryz.sizeOf5
  v5 := Tryz.zeroValue5
  t9 := Tryz.underlying9
  a9 := Tryz.isAgg9
  z9 := Tryz.sizeOf9
  v9 := Tryz.zeroValue9
  t22 := Tryz.underlying329
  a22 := Tryz.isAgg329
  z22 := Tryz.sizeOf329
  v22 := Tryz.zeroValue329
  t25 := Tryz.underlying334
  a25 := Tryz.isAgg334
  z25 := Tryz.sizeOf334
  v25 := Tryz.zeroValue334
  t39 := Tryz.underlying348
  a39 := Tryz.isAgg348
  z39 := Tryz.sizeOf348
  v39 := Tryz.zeroValue348
  t45 := Tryz.underlying392
  a45 := Tryz.isAgg392
  z45 := Tryz.sizeOf392
  v45 := Tryz.zeroValue392
  t46 := Tryz.underlying393
  a46 := Tryz.isAgg393
  z46 := Tryz.sizeOf393
  v46 := Tryz.zeroValue393
  t50 := Tryz.underlying183
  a50 := Tryz.isAgg183
  z50 := Tryz.sizeOf183
  v50 := Tryz.zeroValue183
  t53 := Tryz.underlying343
  a53 := Tryz.isAgg343
  z53 := Tryz.sizeOf343
  v53 := Tryz.zeroValue343
  t55 := Tryz.underlying260
  a55 := Tryz.isAgg260
  z55 := Tryz.sizeOf260
  v55 := Tryz.zeroValue260
  t66 := Tryz.underlying420
  a66 := Tryz.isAgg420
  z66 := Tryz.sizeOf420
  v66 := Tryz.zeroValue420
  t70 := Tryz.underlying187
  a70 := Tryz.isAgg187
  z70 := Tryz.sizeOf187
  v70 := Tryz.zeroValue187
  t76 := Tryz.underlying434
  a76 := Tryz.isAgg434
  z76 := Tryz.sizeOf434
  v76 := Tryz.zeroValue434
  t77 := Tryz.underlying435
  a77 := Tryz.isAgg435
  z77 := Tryz.sizeOf435
  v77 := Tryz.zeroValue435 }
end Go.Proofs
namespace Go.Sx
open Go Go.RowKit Go.Proofs Go.Sort Go.Lib
structure TE [K : Key] where
  e : Ev
  tm : Tm e.at_.at_
instance yC7_1 [K : Key] : Inhabited TE := ⟨⟨default, uA⟩⟩
def cfT [K : Key] (x y : TE) : Int := bK x.1 y.1
theorem un [K : Key] (x y : TE) : ltOf cfT x y = decide (kB x.1.at_ < kB y.1.at_) := by
  unfold ltOf cfT bK
  rw [cmpB x.2 y.2]
  exact decide_eq_decide.2 km
theorem xY [K : Key] : SWO (ltOf cfT) where
  irrefl x := by rw [un]; exact decide_eq_false (Nat.lt_irrefl _)
  trans x y z h1 h2 := by
    rw [un, decide_eq_true_eq] at *
    omega
  ntrans x y z h1 h2 := by
    rw [un, decide_eq_false_iff_not] at *
    omega
def qN [K : Key] (d : Array TE) : Array TE := pdq (ltOf cfT) d 0 d.size (Lib.bitLen d.size) true true
theorem vK [K : Key] (d : Array TE) : (qN d).size = d.size ∧ (qN d).toList.Perm d.toList ∧ (qN d).toList.Pairwise fun a b => kB a.1.at_ ≤ kB b.1.at_ := by
  have h := pdq_sorts (ltOf cfT) xY d 0 d.size (Lib.bitLen d.size) true true (Nat.zero_le _) (Nat.le_refl _) (Or.inl rfl)
  obtain ⟨⟨h1, _, h3⟩, h4⟩ := h
  have h1 : (qN d).size = d.size := h1
  refine ⟨h1, ?_, ?_⟩
  · have h3 : ((qN d).extract 0 d.size).toList.Perm (d.extract 0 d.size).toList := h3
    rw [← h1] at h3
    rw [h1] at h3
    have e1 : (qN d).extract 0 d.size = qN d := by rw [← h1]; simp
    have e2 : d.extract 0 d.size = d := by simp
    rwa [e1, e2] at h3
  · rw [List.pairwise_iff_getElem]
    intro i j hi hj hij
    have hi' : i < (qN d).size := by simpa using hi
    have hj' : j < (qN d).size := by simpa using hj
    have h5 := h4 i j (Nat.zero_le _) hij (by rw [← h1]; exact hj')
    have h5 : ltOf cfT (qN d)[j]! (qN d)[i]! = false := h5
    rw [getElem!_pos (qN d) i hi', getElem!_pos (qN d) j hj', un, decide_eq_false_iff_not] at h5
    show kB ((qN d).toList[i]).1.at_ ≤ kB ((qN d).toList[j]).1.at_
    simp only [Array.getElem_toList]
    omega
def tmB [K : Key] (x : GR) : Bool := decide (x ∈ K.l)
theorem vC [K : Key] {x : GR} : tmB x = true ↔ Tm x := Tm.iff
def tmL [K : Key] (l : List Ev) : Bool := l.all fun e => tmB e.at_.at_
theorem iy [K : Key] {l : List Ev} : tmL l = true ↔ ∀ e ∈ l, Tm e.at_.at_ := by
  unfold tmL
  rw [List.all_eq_true]
  exact ⟨fun h e he => vC.1 (h e he), fun h e he => vC.2 (h e he)⟩
def evT [K : Key] (l : List Ev) (h : tmL l = true) : Array TE := (l.attach.map fun e => (⟨e.1, iy.1 h e.1 e.2⟩ : TE)).toArray
theorem xG [K : Key] (l : List Ev) (h : tmL l = true) : (evT l h).toList.map (fun x => x.1) = l := by
  show ((l.attach.map fun e => (⟨e.1, iy.1 h e.1 e.2⟩ : TE)).map fun x => x.1) = l
  rw [List.map_map]
  exact List.attach_map_subtype_val l
theorem evT_size [K : Key] (l : List Ev) (h : tmL l = true) : (evT l h).size = l.length := by unfold evT; simp
def aS [K : Key] (l : List Ev) : List Ev :=
  if h : tmL l = true then (if l.length ≤ 12 then bN l else (qN (evT l h)).toList.map fun x => x.1) else l
theorem small_is (l : List Ev) : bN l = rE bK l 0 l.length := by
  unfold bN bM
  show bm l 0 l.length = _
  unfold bm
  rfl
theorem pp [K : Key] {x : Ev} (hx : Tm x.at_.at_) : ∀ {r : List Ev}, (∀ e ∈ r, Tm e.at_.at_) → (r.Pairwise fun a b => kB b.at_ ≤ kB a.at_) → (iw bK x r).Pairwise fun a b => kB b.at_ ≤ kB a.at_
  | [], _, _ => List.pairwise_singleton _ _
  | y :: q, h, hp => by
    have hy := h y (List.mem_cons_self ..)
    have hp2 := List.pairwise_cons.1 hp
    have hc : bK x y < 0 ↔ kB x.at_ < kB y.at_ := by
      unfold bK
      rw [cmpB hx hy, km]
    unfold iw
    by_cases hl : bK x y < 0
    · rw [if_pos hl, List.pairwise_cons]
      refine ⟨fun z hz => ?_, pp hx (fun e he => h e (List.mem_cons_of_mem _ he)) hp2.2⟩
      rcases List.mem_cons.1 ((iE (c := bK) x q).mem_iff.1 hz) with rfl | hz
      · have := hc.1 hl; omega
      · exact hp2.1 z hz
    · rw [if_neg hl, List.pairwise_cons]
      have hxy : kB y.at_ ≤ kB x.at_ := Nat.le_of_not_lt fun h2 => hl (hc.2 h2)
      refine ⟨fun z hz => ?_, hp⟩
      rcases List.mem_cons.1 hz with rfl | hz
      · exact hxy
      · exact Nat.le_trans (hp2.1 z hz) hxy
theorem rF [K : Key] : ∀ {s r : List Ev}, (∀ e ∈ s, Tm e.at_.at_) → (∀ e ∈ r, Tm e.at_.at_) → (r.Pairwise fun a b => kB b.at_ ≤ kB a.at_) → (oS bK r s).Pairwise fun a b => kB b.at_ ≤ kB a.at_
  | [], _, _, _, hp => hp
  | x :: s, r, h1, h2, hp => by
    have hx := h1 x (List.mem_cons_self ..)
    show (oS bK (iw bK x r) s).Pairwise _
    exact rF (fun e he => h1 e (List.mem_cons_of_mem _ he)) (fun e he => by
      rcases List.mem_cons.1 ((iE (c := bK) x r).mem_iff.1 he) with rfl | he
      · exact hx
      · exact h2 e he) (pp hx h2 hp)
theorem pN [K : Key] {l : List Ev} (h : ∀ e ∈ l, Tm e.at_.at_) : (aS l).Perm l ∧ (aS l).Pairwise fun a b => kB a.at_ ≤ kB b.at_ := by
  unfold aS
  rw [dif_pos (iy.2 h)]
  by_cases hl : l.length ≤ 12
  · rw [if_pos hl, small_is]
    refine ⟨kT l, ?_⟩
    rw [qp, List.pairwise_reverse]
    exact rF h (fun _ h => by cases h) List.Pairwise.nil
  · rw [if_neg hl]
    obtain ⟨_, h2, h3⟩ := vK (evT l (iy.2 h))
    refine ⟨?_, by rw [List.pairwise_map]; exact h3⟩
    have := h2.map (fun x : TE => x.1)
    rwa [xG] at this
theorem jz [K : Key] (l : List Ev) : (aS l).Perm l := by
  by_cases h : ∀ e ∈ l, Tm e.at_.at_
  · exact (pN h).1
  · unfold aS; rw [dif_neg (fun h2 => h (iy.1 h2))]
theorem jK [K : Key] (x : List Ev) (xv : Value) (hl : x.length ≤ 1000) (hT : ∀ e ∈ x, Tm e.at_.at_) (zx : All (SzE 30) x) (w0 w : World) (B : Asn) (hbel : Below w0.heap.size w0 w) (hsep : ∃ Z_, Sep w0.heap.size w [.row (α := Ev) 332 xv x, B] Z_)  : Calls Tryz.prog 267 #[xv, (.func (.func 268) #[] #[])] w (RetY w0 (fun v => v = .tuple #[] ∧ (All (SzE 30) (aS x) ∧ (aS x).length = x.length)) (fun v => [.row (α := Ev) 332 xv (aS x), B])) := by
  have hprop : All (SzE 30) (aS x) ∧ (aS x).length = x.length := ⟨fun e he => zx e ((jz x).mem_iff.1 he), (jz x).length_eq⟩
  by_cases h12 : x.length ≤ 12
  · have e : aS x = bN x := by unfold aS; rw [dif_pos (iy.2 hT), if_pos h12]
    rw [e]
    exact iM x xv h12 zx w0 w B hbel hsep
  · have e : aS x = (qN (evT x (iy.2 hT))).toList.map (fun x => x.1) := by unfold aS; rw [dif_pos (iy.2 hT), if_neg h12]
    have hsz := evT_size x (iy.2 hT)
    have hsep2 : ∃ Z_, Sep w0.heap.size w [.row (α := Ev) 332 xv ((evT x (iy.2 hT)).toList.map (fun x => x.1)), B] Z_ := by rw [xG]; exact hsep
    have hk := sort_own (P := Tryz.prog) (val := fun x : TE => x.1) (F := 267) (more := [(.func (.func 268) #[] #[])]) (D' := qN (evT x (iy.2 hT))) (by omega) (vK _).1 hprop hbel hsep2 fun blk cap hv hH hhi hlo => by
      have eg : ∀ args w, (callFunc 268 args).run Tryz.prog w = .ok (.enter 268 args) w := Tryz.call268
      have hc := lays_of (P := Tryz.prog) (val := fun x : TE => x.1) (g := 268) (cf := cfT) (blk := blk) (size := (evT x (iy.2 hT)).size) (w := w) (p := fun x y => (-1 ≤ (bK x.1 y.1) ∧ (bK x.1 y.1) ≤ 1)) (fun a b w => iC a.1 b.1 (eS (tm_sz a.2) (by decide)) (eS (tm_sz b.2) (by decide)) w)
      have := AnyQ.slices_SortFunc_eq (P := Tryz.prog) Tryz.laysSort 12 Tryz.isAgg332 zz332 (fun x : TE => Cod.enc x.1) (fun x => Cod.len x.1) (fun x => Cod.one x.1) cfT xY 268 #[] blk 0 cap (evT x (iy.2 hT)) w eg hc hH hhi (by omega)
      rw [hv]
      exact this
    rw [← e] at hk
    exact hk
def EvB (e : Ev) : Prop := (-1 ≤ e.b0 ∧ e.b0 ≤ 1) ∧ (-1 ≤ e.b1 ∧ e.b1 ≤ 1)
theorem evb_nil : ∀ e ∈ ([] : List Ev), EvB e := fun _ h => by cases h
theorem xE {l : List Ev} (h : ∀ e ∈ l, EvB e) {x y : Bd} {a b c d : Int} (h1 : (-1 ≤ a ∧ a ≤ 1) ∧ (-1 ≤ b ∧ b ≤ 1)) (h2 : (-1 ≤ c ∧ c ≤ 1) ∧ (-1 ≤ d ∧ d ≤ 1)) : ∀ e ∈ l ++ [⟨x, a, b⟩, ⟨y, c, d⟩], EvB e := fun e he => by
  rcases List.mem_append.1 he with he | he
  · exact h e he
  · rcases List.mem_cons.1 he with rfl | he
    · exact h1
    · rw [List.mem_singleton.1 he]; exact h2
theorem evb_gt [K : Key] {l : List Ev} (h : ∀ e ∈ l, EvB e) (i : Nat) : EvB (gt (aS l) i) := by
  have hp := jz l
  by_cases hi : i < (aS l).length
  · have : gt (aS l) i ∈ aS l := by
      unfold gt
      rw [List.getD_eq_getElem?_getD, List.getElem?_eq_getElem hi]
      exact List.getElem_mem _
    exact h _ (hp.mem_iff.1 this)
  · have : gt (aS l) i = default := by unfold gt; rw [List.getD_eq_getElem?_getD, List.getElem?_eq_none (by omega)]; rfl
    rw [this]; exact ⟨⟨by decide, by decide⟩, ⟨by decide, by decide⟩⟩
theorem mI {β : Type} [Inhabited β] {A : List β} {i : Nat} (h : i < A.length) : A.take (i + 1) = A.take i ++ [gt A i] := by
  rw [fU h, List.take_append_getElem]
theorem evA_next {l : List Ev} {a : List Iv} {x : Nat} (h : l = evA (a.take x)) (hx : x < a.length) : l ++ [⟨aw (gt a x), 1, 0⟩, ⟨aB (gt a x), -1, 0⟩] = evA (a.take (x + 1)) := by
  rw [h, mI hx]; simp [evA]
theorem evB_next {l : List Ev} {a b : List Iv} {x : Nat} (h : l = evA a ++ evB (b.take x)) (hx : x < b.length) : l ++ [⟨aw (gt b x), 0, 1⟩, ⟨aB (gt b x), 0, -1⟩] = evA a ++ evB (b.take (x + 1)) := by
  rw [h, mI hx]; simp [evB]
end Go.Sx
