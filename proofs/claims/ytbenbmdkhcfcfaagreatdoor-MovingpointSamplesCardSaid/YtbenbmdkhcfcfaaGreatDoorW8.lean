/- A part of the proof of movingpointSamples. -/
import Derived.Test.YtbenbmdkhcfcfaaGreatDoorW7
import Derived.Shelf.SlSortCmp.WholeK
import Derived.Test.YtbenbmdkhcfcfaaGreatDoorProg
import Derived.Test.YtbenbmdkhcfcfaaGreatDoorW6
import Derived.Test.YtbenbmdkhcfcfaaGreatDoorU9
set_option linter.unusedVariables false
set_option linter.unusedSimpArgs false
open Go.Proofs.Tryz renaming isAgg3 → aa3, runUnderlying93 → uu93, runUnderlying293 → uu293, runUnderlying232 → uu232, runUnderlying80 → uu80, underlying25 → nn25, underlying27 → nn27, runUnderlying47 → uu47
namespace Go.Sx
open Go Go.RowKit Go.Proofs
set_option maxRecDepth 100000
set_option maxHeartbeats 40000000
instance yW8_1 (k m : Nat) : Decidable (SzB k m) := inferInstanceAs (Decidable (_ ≤ _))
instance yW8_2 (k : Nat) (x : GI) : Decidable (SzI k x) := inferInstanceAs (Decidable (SzB _ _))
instance yW8_3 (k : Nat) (x : GQ) : Decidable (SzQ k x) := inferInstanceAs (Decidable (_ ∧ _))
instance yW8_4 (k : Nat) (x : GR) : Decidable (SzR k x) := inferInstanceAs (Decidable (_ ∧ _))
instance yW8_5 (k : Nat) (x : Iv) : Decidable (SzV k x) := inferInstanceAs (Decidable (_ ∧ _))
instance yW8_6 (k : Nat) (x : Ln) : Decidable (SzN k x) := inferInstanceAs (Decidable (_ ∧ _))
instance yW8_7 (k : Nat) (x : U Ln) : Decidable (gk k x) := inferInstanceAs (Decidable (_ ∧ _))
instance yW8_8 (k : Nat) (x : Pnt) : Decidable (qj k x) := inferInstanceAs (Decidable (_ ∧ _))
instance yW8_9 (k : Nat) (x : Smp) : Decidable (tu k x) := inferInstanceAs (Decidable (_ ∧ _))
instance yW8_10 (x : GQ) : Decidable (Sm x) := inferInstanceAs (Decidable (_ ∧ _))
instance yW8_11 (x : GR) : Decidable (FlO x) := inferInstanceAs (Decidable (_ ∧ _))
def rr (n : Int) : GR := ⟨ak n, oQ, false⟩
def exU : List (U Ln) := [⟨⟨rr 0, rr 2, false, false⟩, ⟨ak 0, ak 2, ak 0, ak 0⟩⟩, ⟨⟨rr 2, rr 4, true, false⟩, ⟨ak 4, ak 0, ak (-6), ak 3⟩⟩]
theorem exN_is : aQ (frP exampleS 2) = (exU, 0) := by decide +kernel
theorem exS_no : (List.range 3).all (fun i => !te (gt exampleS i) && !kG exampleS i) = true := by decide +kernel
theorem exS_is : frS exampleS (exU, 0) = (exU, 0) := by
 have h : ∀ i, i < 3 → te (gt exampleS i) = false ∧ kG exampleS i = false := fun i hi => by
  have := List.all_eq_true.mp exS_no i (List.mem_range.mpr hi)
  simpa using this
 have hl : exampleS.length = 3 := rfl
 unfold frS
 rw [if_neg (by omega), if_neg (fun ⟨i, h1, h2⟩ => by rw [(h i (by omega)).1] at h2; cases h2), if_neg (fun ⟨i, h1, h2⟩ => by rw [(h i (by omega)).2] at h2; cases h2), if_neg (by omega)]
theorem exI_is : dc exU true = [aK 2] := by decide +kernel
theorem exB_is : boxOf exU = ⟨0, 4, 0, 6, 0, 4⟩ := by decide +kernel
theorem exZ : ∀ x ∈ exU, gk 30 x := by decide +kernel
theorem exP_z : ∀ x ∈ frP exampleS 2, gk 30 x := by decide +kernel
theorem exS_z : ∀ x ∈ exampleS, tu 40 x := by decide +kernel
theorem exX : (∀ x ∈ bX exU 4, SzR 36 x) ∧ FlO (lL (bX exU 4) 3) ∧ FlO (d7 (jT (bX exU 4) 3)) ∧ (eO (jT (bX exU 4) 3)).mag ≤ 1099511627776 := by decide +kernel
theorem exY : (∀ x ∈ bY exU 4, SzR 36 x) ∧ FlO (lL (bY exU 4) 3) ∧ FlO (d7 (jT (bY exU 4) 3)) ∧ (eO (jT (bY exU 4) 3)).mag ≤ 1099511627776 := by decide +kernel
theorem exT : (∀ x ∈ bT exU 4, SzR 36 x) ∧ FlO (lL (bT exU 4) 3) ∧ FlO (d7 (jT (bT exU 4) 3)) ∧ (eO (jT (bT exU 4) 3)).mag ≤ 1099511627776 := by decide +kernel
theorem exE : ∀ x ∈ exU, (SzR 30 x.iv.lo ∧ Sm x.iv.lo.r) ∧ (SzR 30 x.iv.hi ∧ Sm x.iv.hi.r) := by decide +kernel
theorem mO : SzR 36 default ∧ SzR 30 default ∧ Sm (default : GR).r ∧ SzN 30 default ∧ tu 40 default := by decide +kernel
end Go.Sx
namespace Go.Sx
open Go Go.RowKit Go.Proofs
set_option maxRecDepth 100000
set_option maxHeartbeats 40000000
attribute [local irreducible] Code.wp wpList Rd Step ObS Ent
attribute [local irreducible] aq aK ak au ay bA
attribute [local irreducible] aD aL aj av aP ah aR
theorem BxO.of {L : List GR} (h : (∀ x ∈ L, SzR 36 x) ∧ FlO (lL L (L.length - 1)) ∧ FlO (d7 (jT L (L.length - 1))) ∧ (eO (jT L (L.length - 1))).mag ≤ 1099511627776) : BxO L := ⟨fun i => All.gt h.1 mO.1, h.2.1, h.2.2.1, h.2.2.2⟩
theorem enR_ok (k : Nat) : SzR 30 (enR exU k) ∧ Sm (enR exU k).r := by
 have h : (SzR 30 (gt exU (k / 2)).iv.lo ∧ Sm (gt exU (k / 2)).iv.lo.r) ∧ (SzR 30 (gt exU (k / 2)).iv.hi ∧ Sm (gt exU (k / 2)).iv.hi.r) := All.gt (p := fun x : U Ln => (SzR 30 x.iv.lo ∧ Sm x.iv.lo.r) ∧ (SzR 30 x.iv.hi ∧ Sm x.iv.hi.r)) exE ⟨⟨mO.2.1, mO.2.2.1⟩, ⟨mO.2.1, mO.2.2.1⟩⟩
 unfold enR; cases k % 2 == 0
 · exact h.2
 · exact h.1
theorem eqi135 : EqIn Tryz.prog 2 135 vBx := eqS (c := cBx) (fun _ => rfl) Tryz.underlying135 Tryz.stoodInHeld135 fun d x y w hd => by
 refine Eq.trans (eqF (by decide) (dh aa3 rfl w) (dh aa3 rfl w) (qO Tryz.underlying3 d og _ _ w) (eqF (by decide) (dh aa3 rfl w) (dh aa3 rfl w) (qO Tryz.underlying3 d og _ _ w) (eqF (by decide) (dh aa3 rfl w) (dh aa3 rfl w) (qO Tryz.underlying3 d og _ _ w) (eqF (by decide) (dh aa3 rfl w) (dh aa3 rfl w) (qO Tryz.underlying3 d og _ _ w) (eqF (by decide) (dh aa3 rfl w) (dh aa3 rfl w) (qO Tryz.underlying3 d og _ _ w) (eqF (by decide) (dh aa3 rfl w) (dh aa3 rfl w) (qO Tryz.underlying3 d og _ _ w) eqF0)))))) ?_
 congr 1
 rw [decide_eq_decide]
 cases x; cases y; simp
theorem eqp135 : EqP Tryz.prog 135 vBx := EqIn.p (k := 2) rfl (c := fun x => (cBx x).toArray) (fun _ => rfl) Tryz.eqGuardType135 eqi135
instance yW8_12 : Ep Tryz.prog 135 Bx inferInstance vBx := ⟨eqp135⟩
instance yW8_13 (b d f : Int) : Bu Tryz.prog 135 [1, 3, 5] [.int .i64 b, .int .i64 d, .int .i64 f] (vBx ⟨0, b, 0, d, 0, f⟩) := Bu.of bld135 rfl rfl
theorem exm_last : ((0 : Int) == 0 && ((exU.length : Nat) : Int) == 2 && decide ((gt exU 1).f = ⟨ak 4, oQ, ak (-6), ak 3⟩) && (gt exU 1).iv.openLo && (([aK 2].length : Nat) : Int) == 1 && decide (gt [aK 2] 0 = aK 2) && (0 : Int) == 0 && decide ((⟨0, 4, 0, 6, 0, 4⟩ : Bx) = ⟨0, 4, 0, 6, 0, 4⟩)) = true := by decide +kernel
theorem ki (w0 : World) : Calls Tryz.prog 14 #[] w0 (RetP w0 (.bool true) True) := by
 refine enter (N := 64) (args := []) Tryz.func14 rfl rfl ?_; intro ac h
 haveI : On := ⟨trivial⟩
 refine gz h <| (W) ?_; clear h ac; intro ac wo h
 refine ka (xs := exampleS) h (dH Tryz.call83 rfl) (fun w_ hB_ hS_ => qN w_) rfl ?_; clear h ac wo; intro s1 ac wo _ h
 refine gz h <| (W) ?_; clear h ac wo; intro ac wo h
 have cS : ∀ lv w, View w lv exampleS → Calls Tryz.prog 16 #[lv] w (RetT w 88 exU [.int .i64 0] True) := fun lv w hv => by
  have := frS_ct exampleS lv (by decide) (fun i => All.gt exS_z mO.2.2.2.2) (exU, 0) _ (fun lv' w' hv' => by
   have h2 := lM (frP exampleS 2) lv' (by decide) exP_z w' hv'
   rw [exN_is] at h2; exact h2) w hv
  rw [exS_is] at this; exact this
 refine mT (xs := exU) h (dH Tryz.call16 rfl) (fun w_ hB_ hS_ => cS s1 w_ (row_view hS_ 0 rfl)) rfl ?_; clear h ac wo; intro s2 ac wo _ h
 refine gz h <| (W) ?_; clear h ac wo; intro ac wo h
 have cT : ∀ lv w, View w lv exU → Calls Tryz.prog 51 #[lv] w (RetR w 71 [aK 2] True) := fun lv w hv => by
  have := Turns_ct exU lv (by decide) (fun x hx => pu (exZ x hx) (by omega)) (fun i => All.gt (p := fun x : U Ln => SzR 30 x.iv.lo) (fun x hx => (exE x hx).1.1) mO.2.1) w hv
  rw [exI_is] at this; exact this
 refine ka (xs := [aK 2]) h (dH Tryz.call51 rfl) (fun w_ hB_ hS_ => cT s2 w_ (row_view hS_ 0 rfl)) rfl ?_; clear h ac wo; intro s3 ac wo _ h
 have cB : ∀ lv w, View w lv exU → Calls Tryz.prog 84 #[lv] w (RetP w (.tuple #[vBx ⟨0, 4, 0, 6, 0, 4⟩, .int .i64 0]) True) := fun lv w hv => by
  have := box_ct exU lv (by decide) (by decide) (fun i => All.gt (p := fun x : U Ln => SzN 30 x.f) (fun x hx => (exZ x hx).2) mO.2.2.2.1) enR_ok (BxO.of exX) (BxO.of exY) (BxO.of exT) w hv
  rw [exB_is] at this; exact this
 refine gz h <| (xc (ct := by exact fun w_ hB_ hS_ => cB s2 w_ (row_view hS_ 1 rfl))) <| (xa) fun b4 => (W) ?_; clear h ac wo; intro ac wo h
 have n4 := bL 4 30 og og
 have n6 := bL (-6) 30 og og
 have n3 := bL 3 30 og og
 have n2 := kx 2 30 og og
 replace h : St w0 64 [(1, s2), (2, .int .i64 0), (3, s3), (4, ptr b4 0), (5, .int .i64 0)] [.blk b4 (cBx ⟨0, 4, 0, 6, 0, 4⟩) 135, .row (α := GR) 71 s3 [aK 2], .row (α := U Ln) 88 s2 exU] ac wo := h.re [0, 1, 2]
 have z1 : gt exU 1 = ⟨⟨rr 2, rr 4, true, false⟩, ⟨ak 4, ak 0, ak (-6), ak 3⟩⟩ := rfl
 have nn2 : NN s2 2 := h.row_nn 2 rfl (by decide)
 have nn3 : NN s3 1 := h.row_nn 1 rfl (by decide)
 refine gz h <| (dr0 (hob := (oG (by exact fun hg => n4)) <| (oG (by exact fun hg => n6)) <| (oG (by exact fun hg => n3)) <| (oG (by exact fun hg => n2)) <| oE)) <| (W) ?_; clear h ac wo; intro ac wo h
 have e : ((0 : Int) == 0 && ((exU.length : Nat) : Int) == 2 && decide ((gt exU 1).f = ⟨ak 4, oQ, ak (-6), ak 3⟩) && (gt exU 1).iv.openLo && (([aK 2].length : Nat) : Int) == 1 && decide (gt [aK 2] 0 = aK 2) && (0 : Int) == 0 && decide ((⟨0, 4, 0, 6, 0, 4⟩ : Bx) = ⟨0, 4, 0, 6, 0, 4⟩)) = true := exm_last
 exact (rt h) (h.retP (congrArg Value.bool e) trivial)
end Go.Sx
namespace Go.Sx
open Go Go.RowKit Go.Proofs
set_option maxRecDepth 100000
set_option maxHeartbeats 40000000
attribute [local irreducible] Code.wp wpList Rd Step ObS Ent
theorem eqi88 : EqIn Tryz.prog 6 88 vUN := eqS (c := cUN) (fun _ => rfl) Tryz.underlying88 Tryz.stoodInHeld88 fun d x y w hd => by
 refine Eq.trans (eqF (by decide) (bQ Tryz.isAgg86 Tryz.sizeOf86 (v := vV x.iv) rfl w) (bQ Tryz.isAgg86 Tryz.sizeOf86 (v := vV y.iv) rfl w) (eqi86 d _ _ w og) (eqF (by decide) (bQ Tryz.isAgg79 Tryz.sizeOf79 (v := vN x.f) rfl w) (bQ Tryz.isAgg79 Tryz.sizeOf79 (v := vN y.f) rfl w) (eqi79 d _ _ w og) eqF0)) ?_
 congr 1
 rw [decide_eq_decide]
 cases x; cases y; simp
theorem eqp88 : EqP Tryz.prog 88 vUN := EqIn.p (k := 6) rfl (c := fun x => (cUN x).toArray) (fun _ => rfl) Tryz.eqGuardType88 eqi88
instance yW8_14 : Ep Tryz.prog 88 (U Ln) inferInstance vUN := ⟨eqp88⟩
theorem rC (l : List (U Ln)) (lv mv : Value) (hl : l.length ≤ 1000) (w0 : World) (hlv : View w0 lv l) (hmv : View w0 mv l) : Calls Tryz.prog 18 #[lv, mv] w0 (RetP w0 (.bool true) True) := by
 refine enter (N := 26) (args := [lv, mv]) Tryz.func18 rfl rfl ?_; intro ac h
 have hlen := hlv.len
 refine gz h <| (ai) ?_ ?_ <;> clear h ac <;> intro ac wo h hc1
 · exfalso; simp at hc1
 refine gz h <| (W) ?_; clear h ac wo; intro ac wo h
 refine wp_loop_ghost (fun n_ a_ w_ => ∃ (i : Nat), (l.length - i < n_) ∧ (i ≤ l.length) ∧ St w0 26 [(0, lv), (1, mv), (5, iN i)] [] a_ w_) (l.length + 1) ⟨0, by omega, by omega, h.rs⟩ ?_
 clear h ac wo; rintro n1 ac wo ⟨i, hm1, hi, h⟩
 obtain ⟨m1, rfl⟩ : ∃ m, n1 = m + 1 := ⟨n1 - 1, by omega⟩
 refine gz h <| (ai) ?_ ?_ <;> clear h ac wo <;> intro ac wo h hc2
 ·
  have hd1 : i < l.length := by have := of_decide_eq_true hc2; omega
  refine gz h <| (dr0 (hob := oE)) <| (ai) ?_ ?_ <;> clear h ac wo <;> intro ac wo h hc3
  · exfalso; simp at hc3
  · refine gz h <| (W) ?_; clear h ac wo; intro ac wo h
    exact aG ⟨m1, by omega, i + 1, by omega, by omega, h.re []⟩
 ·
  refine gz h <| (W) ?_; clear h ac wo; intro ac wo h
  exact (rt h) (h.retP rfl trivial)
end Go.Sx
namespace Go.Sx
open Go Go.RowKit Go.Proofs
set_option maxRecDepth 100000
set_option maxHeartbeats 40000000
attribute [local irreducible] Code.wp wpList Rd Step ObS Ent
attribute [local irreducible] aq aK ak au ay bA an
attribute [local irreducible] aD aL aj av aP ah aR
section
variable [K : Key]
theorem rj {x : GR} (h : Tm x) : SzR 30 x := dN h.szr og
end
end Go.Sx
namespace Go.Sx
open Go Go.RowKit Go.Proofs
set_option maxRecDepth 100000
set_option maxHeartbeats 40000000
attribute [local irreducible] Code.wp wpList Rd Step ObS Ent
attribute [local irreducible] aq aK ak au ay bA an
attribute [local irreducible] aD aL aj av aP ah aR
def cSq (s : Stq) : List Value := [.int .u8 ((s.time : Nat) : Int), .int .u8 ((s.x : Nat) : Int), .int .u8 ((s.y : Nat) : Int), .int .u8 ((s.kind : Nat) : Int)]
def vSq (s : Stq) : Value := .agg (cSq s).toArray
instance yW8_15 : Cod Stq := ⟨cSq, 4, fun _ => rfl, fun x => by simp [cSq, Value.oneCell'], by decide⟩
instance yW8_16 (s : Stq) : Cel (vSq s) (cSq s) := ⟨rfl⟩
instance yW8_17 (s : Stq) : Dc (cSq s) (vSq s) := ⟨rfl⟩
instance yW8_18 : Sz Tryz.prog 93 4 := ⟨Tryz.sizeOf93⟩
instance yW8_19 : Sz Tryz.prog 293 4 := ⟨Tryz.sizeOf293⟩
instance yW8_20 : Sz Tryz.prog 91 1 := ⟨Tryz.sizeOf91⟩
instance yW8_21 : Ag Tryz.prog 93 true := ⟨Tryz.isAgg93⟩
instance yW8_22 : Ag Tryz.prog 293 true := ⟨Tryz.isAgg293⟩
instance yW8_23 : Ag Tryz.prog 91 false := ⟨Tryz.isAgg91⟩
instance yW8_24 : Un Tryz.prog 91 (.slice 293) := ⟨Tryz.runUnderlying91⟩
instance yW8_25 : Fl Tryz.prog 93 0 5 0 := ⟨⟨_, _, uu93, rfl, rfl, rfl⟩⟩
instance yW8_26 : Fl Tryz.prog 93 1 5 1 := ⟨⟨_, _, uu93, rfl, rfl, rfl⟩⟩
instance yW8_27 : Fl Tryz.prog 93 2 5 2 := ⟨⟨_, _, uu93, rfl, rfl, rfl⟩⟩
instance yW8_28 : Fl Tryz.prog 93 3 91 3 := ⟨⟨_, _, uu93, rfl, rfl, rfl⟩⟩
instance yW8_29 : Fl Tryz.prog 293 0 5 0 := ⟨⟨_, _, uu293, rfl, rfl, rfl⟩⟩
instance yW8_30 : Fl Tryz.prog 293 1 5 1 := ⟨⟨_, _, uu293, rfl, rfl, rfl⟩⟩
instance yW8_31 : Fl Tryz.prog 293 2 5 2 := ⟨⟨_, _, uu293, rfl, rfl, rfl⟩⟩
instance yW8_32 : Fl Tryz.prog 293 3 5 3 := ⟨⟨_, _, uu293, rfl, rfl, rfl⟩⟩
instance yW8_33 : Zc Tryz.prog 293 (cSq ⟨0, 0, 0, 0⟩) := ⟨⟨_, Tryz.zeroValue293, rfl⟩⟩
instance yW8_34 : Sh Tryz.prog 293 Stq vSq := ⟨trivial⟩
section
variable {P : Program} {w0 : World} {F : List (Nat × Value)} {t tt : TypeId} {x y : Operand}
theorem rmN (d : Nat) {k : IntKind} {m : Nat} (hx : ev F x = some (.int k ((m : Nat) : Int))) (hy : ev F y = some (.int k ((d : Nat) : Int))) (h : Nat.blt 0 d = true) : Rd P w0 F [] (.binOp .rem t x y tt) (.int k ((m % d : Nat) : Int)) :=
  oL hx hy (by have := Nat.le_of_ble_eq_true h; omega) (by rw [Int.tmod_eq_emod_of_nonneg (by omega)]; rfl)
theorem cvI {m : Nat} (hm : m < 256) (hx : ev F x = some (.int .u8 ((m : Nat) : Int))) : Rd Tryz.prog w0 F [] (.convert 5 3 x) (.int .i64 ((m : Nat) : Int)) :=
  aZ Tryz.runUnderlying5 Tryz.runUnderlying3 hx (by rw [IntKind.wrap_i64]; omega)
end
theorem t_nrmM {P : Program} {Q : Exit → Act → World → Prop} {y : Code} {a : Act} {w : World} (h : y.wp P Q a w) : thn P y Q .normal a w := by unfold thn; exact h
theorem jn {P : Program} {Q : Exit → Act → World → Prop} {x y : Code} {a : Act} {w : World} (M : Act → World → Prop) (h : x.wp P (fun e a w => e = .normal ∧ M a w) a w) (k : ∀ a w, M a w → y.wp P Q a w) : x.wp P (thn P y Q) a w :=
  Code.wp_mono (fun e a w h => by obtain ⟨rfl, h⟩ := h; exact t_nrmM (k a w h)) h
end Go.Sx
namespace Go.Sx
open Go Go.RowKit Go.Proofs
set_option maxRecDepth 100000
set_option maxHeartbeats 40000000
attribute [local irreducible] Code.wp wpList Rd Step ObS Ent
attribute [local irreducible] aq aK ak au ay bA an
attribute [local irreducible] aD aL aj av aP ah aR cP gV bH ar
theorem make_0 {n d : GI} (hd : d6 d ≠ 0) : (bF n d).2 = 0 := by
  have h : (bE d == 0) = false := by rw [hG]; simp; exact hd
  unfold bF; rw [h]; rfl
instance yW8_35 : Sz Tryz.prog 94 2 := ⟨Tryz.sizeOf94⟩
instance yW8_36 : Ag Tryz.prog 94 true := ⟨Tryz.isAgg94⟩
instance yW8_37 : Un Tryz.prog 94 (.array 2 5) := ⟨Tryz.runUnderlying94⟩
section
variable [K : Key] [KeyZ] [KeyB]
omit [KeyZ] [KeyB] in
end
end Go.Sx
namespace Go.Sx
theorem sw {α : Type} [Inhabited α] {l : List α} {i : Nat} (h : i < l.length) : gt l i ∈ l := by rw [fJ h]; exact List.getElem_mem _
section
variable [K : Key]
end
end Go.Sx
namespace Go.Sx
open Go Go.RowKit Go.Proofs
set_option maxRecDepth 100000
set_option maxHeartbeats 40000000
attribute [local irreducible] Code.wp wpList Rd Step ObS Ent
attribute [local irreducible] aq aK ak au ay bA an aH
attribute [local irreducible] aD aL aj av aP ah aR cP gV bH ar
instance yW8_38 : Sz Tryz.prog 232 32 := ⟨Tryz.sizeOf232⟩
instance yW8_39 : Ag Tryz.prog 232 true := ⟨Tryz.isAgg232⟩
instance yW8_40 : Un Tryz.prog 118 (.slice 232) := ⟨Tryz.runUnderlying118⟩
instance yW8_41 : Fl Tryz.prog 232 0 86 0 := ⟨⟨_, _, uu232, rfl, rfl, rfl⟩⟩
instance yW8_42 : Fl Tryz.prog 232 1 53 20 := ⟨⟨_, _, uu232, rfl, rfl, rfl⟩⟩
instance yW8_43 : Cf Tryz.prog 237 := ⟨Tryz.call237⟩
instance yW8_44 : Cf Tryz.prog 173 := ⟨Tryz.call173⟩
instance yW8_45 : Cf Tryz.prog 174 := ⟨Tryz.call174⟩
end Go.Sx
namespace Go.Sx
open Go Go.RowKit Go.Proofs
set_option maxRecDepth 100000
set_option maxHeartbeats 40000000
attribute [local irreducible] Code.wp wpList Rd Step ObS Ent
attribute [local irreducible] aq aK ak au ay bA an aH
attribute [local irreducible] aD aL aj av aP ah aR cP gV bH ar dx
theorem nE (w : World) : (method (Tryz.prog.types.size + Made.depth) 80 (.agg #[]) "Check").run Tryz.prog w = .ok (45, .agg #[]) w := iu (P := Tryz.prog) (T := 80) Tryz.type80 (by kernel_rfl) uu80 w
instance yW8_46 : Mt Tryz.prog 80 (.agg #[]) "Check" 45 := ⟨nE⟩
theorem mu (w : World) : (nilAhead (Tryz.prog.types.size + Made.depth) 80 (.agg #[]) "Check").run Tryz.prog w = .ok (some false) w := fW (P := Tryz.prog) (T := 80) (f := 45) Tryz.type80 (by kernel_rfl) uu80 w
instance yW8_47 : Nl Tryz.prog 80 (.agg #[]) "Check" := ⟨mu⟩
end Go.Sx
namespace Go.Sx
open Go Go.RowKit Go.Proofs
set_option maxRecDepth 100000
set_option maxHeartbeats 40000000
attribute [local irreducible] Code.wp wpList Rd Step ObS Ent
attribute [local irreducible] aq aK ak au ay bA an aH
attribute [local irreducible] aD aL aj av aP ah aR cP gV bH ar
instance yW8_48 (a b c : GQ) : Bu Tryz.prog 53 [0, 1, 2] [vQ a, vQ b, vQ c] (vD ⟨a, b, c⟩) := Bu.of qY rfl rfl
end Go.Sx
namespace Go.Sx
open Go Go.RowKit Go.Proofs
set_option maxRecDepth 100000
set_option maxHeartbeats 40000000
attribute [local irreducible] Code.wp wpList Rd Step ObS Ent
attribute [local irreducible] aq aK ak au ay bA an aH
attribute [local irreducible] aD aL aj av aP ah aR cP gV bH ar
instance yW8_49 : Cf Tryz.prog 163 := ⟨Tryz.call163⟩
instance yW8_50 : Cf Tryz.prog 166 := ⟨Tryz.call166⟩
end Go.Sx
namespace Go.Sx
open Go Go.RowKit Go.Proofs
set_option maxRecDepth 100000
set_option maxHeartbeats 40000000
attribute [local irreducible] Code.wp wpList Rd Step ObS Ent
attribute [local irreducible] aq aK ak au ay bA an aH
structure XI where
  neg : Bool
  b : ByteArray
structure XQ where
  n : XI
  d : XI
def cXI (x : XI) : List Value := [.bool x.neg, .string x.b]
def vXI (x : XI) : Value := .agg (cXI x).toArray
def cXQ (x : XQ) : List Value := cXI x.n ++ cXI x.d
def vXQ (x : XQ) : Value := .agg (cXQ x).toArray
instance yW8_51 (x : XI) : Cel (vXI x) (cXI x) := ⟨rfl⟩
instance yW8_52 (x : XI) : Dc (cXI x) (vXI x) := ⟨rfl⟩
instance yW8_53 (x : XQ) : Cel (vXQ x) (cXQ x) := ⟨rfl⟩
instance yW8_54 (x : XQ) : Dc (cXQ x) (vXQ x) := ⟨rfl⟩
structure Bad (b : ByteArray) : Prop where
  pos : 0 < b.size
  z : (b[0]'pos).toNat = 0
section
variable {P : Program} {w0 : World} {F : List (Nat × Value)}
theorem r_eqlE {x y : Operand} {t tt : TypeId} {b : ByteArray} (hx : ev F x = some (.string b)) (hy : ev F y = some (.string ⟨#[]⟩)) (hb : Bad b) : Rd P w0 F [] (.binOp .eql t x y tt) (.bool false) := by
  have := r_eqlS (P := P) (w0 := w0) (t := t) (tt := tt) hx hy
  rwa [decide_eq_false (fun e => by have := hb.pos; rw [e] at this; exact absurd this (by decide))] at this
theorem r_neqE {x y : Operand} {t tt : TypeId} {b : ByteArray} (hx : ev F x = some (.string b)) (hy : ev F y = some (.string ⟨#[]⟩)) (hb : Bad b) : Rd P w0 F [] (.binOp .neq t x y tt) (.bool true) := by
  have := r_neqS (P := P) (w0 := w0) (t := t) (tt := tt) hx hy
  rwa [decide_eq_false (fun e => by have := hb.pos; rw [e] at this; exact absurd this (by decide))] at this
theorem r_indexE {x ix : Operand} {t : TypeId} {b : ByteArray} {k : IntKind} (hu : ∀ w, (underlying t).run P w = .ok .string w) (hx : ev F x = some (.string b)) (hi : ev F ix = some (.int k 0)) (hb : Bad b) : Rd P w0 F [] (.index t x ix) (.int .u8 0) := by
  have := kg (P := P) (w0 := w0) (i := 0) hu hx hi hb.pos
  rwa [hb.z] at this
end
theorem tf (x : XI) (hb : Bad x.b) (w0 : World) : Calls Tryz.prog 157 #[vXI x] w0 (RetP w0 (.int .i64 5) True) := by
 refine enter (N := 21) (args := [vXI x]) Tryz.func157 rfl rfl ?_; intro ac h
 refine gz h <| (xb) fun b1 => (xo (hs := by exact r_eqlE rfl rfl hb)) <| (xg (hs := by exact fun hg => (Rd.of_nil (r_neqE (cH rfl hg) rfl hb)).step)) <| (xg (hs := by exact fun hg => (Rd.of_nil (r_indexE Tryz.runUnderlying9 (cH rfl hg) rfl hb)).step)) <| (ai) ?_ ?_ <;> clear h ac <;> intro ac wo h hc1
 · refine gz h <| (W) ?_; clear h ac wo; intro ac wo h
   exact (rt h) (h.retP rfl trivial)
 · exfalso; simp at hc1
section
theorem sh25X : Sh Tryz.prog 25 XI vXI := ⟨trivial⟩
attribute [local instance 2000] sh25X
theorem badN_ct (x : XQ) (hb : Bad x.n.b) (w0 : World) : Calls Tryz.prog 62 #[vXQ x] w0 (RetP w0 (.int .i64 5) True) := by
 refine enter (N := 31) (args := [vXQ x]) Tryz.func62 rfl rfl ?_; intro ac h
 refine gz h <| (xb) fun b1 => (xk (tf x.n hb)) <| (xg (v := .int .i64 0) (hs := by exact fun hg => False.elim (Bool.noConfusion (show false = true from hg)))) <| (ai) ?_ ?_ <;> clear h ac <;> intro ac wo h hc1
 · refine gz h <| (W) ?_; clear h ac wo; intro ac wo h
   exact (rt h) (h.retP rfl trivial)
 · exfalso; simp at hc1
theorem badD_ct (a : GI) (za : SzI 16 a) (y : XI) (hb : Bad y.b) (w0 : World) : Calls Tryz.prog 62 #[vXQ ⟨⟨a.neg, bs a.mag⟩, y⟩] w0 (RetP w0 (.int .i64 5) True) := by
 refine enter (N := 31) (args := [vXQ ⟨⟨a.neg, bs a.mag⟩, y⟩]) Tryz.func62 rfl rfl ?_; intro ac h
 have c1 : ∀ w0, Calls Tryz.prog 157 #[vXI ⟨a.neg, bs a.mag⟩] w0 (RetP w0 (.int .i64 (cd a)) True) := fun w0 => fI a za w0
 refine gz h <| (xb) fun b1 => (xk c1) <| (xg (hs := by exact fun hg => ef enA (kk (tf y hb)))) <| (ai) ?_ ?_ <;> clear h ac <;> intro ac wo h hc1
 · refine gz h <| (W) ?_; clear h ac wo; intro ac wo h
   exact (rt h) (h.retP rfl trivial)
 · exfalso; simp at hc1
end
end Go.Sx
namespace Go.Sx
open Go Go.RowKit Go.Proofs
theorem mq : ∀ {l : List UInt8} {c : UInt8}, c ≠ 0 → 0 < ns (l ++ [c])
  | [], c, h => by
    have h2 : c.toNat ≠ 0 := fun e => h (by rw [← UInt8.ofNat_toNat (x := c), e]; rfl)
    show 0 < c.toNat + 256 * ns []
    omega
  | b :: l, c, h => by
    have := mq (l := l) h
    show 0 < b.toNat + 256 * ns (l ++ [c])
    omega
theorem so : ∀ (l : List UInt8) (c : UInt8), c ≠ 0 → le (ns (l ++ [c])) = l ++ [c]
  | [], c, h => by
    have h0 := mq (l := []) h
    have h2 := c.toNat_lt
    have e : ns ([] ++ [c]) = c.toNat := by show c.toNat + 256 * 0 = _; omega
    rw [e] at h0 ⊢
    rw [ie h0, Nat.mod_eq_of_lt h2, Nat.div_eq_of_lt h2, kK, UInt8.ofNat_toNat]; rfl
  | b :: l, c, h => by
    have h0 := mq (l := b :: l) h
    have h2 := b.toNat_lt
    have e : ns ((b :: l) ++ [c]) = b.toNat + 256 * ns (l ++ [c]) := rfl
    rw [ie h0, e]
    rw [show (b.toNat + 256 * ns (l ++ [c])) % 256 = b.toNat by omega, show (b.toNat + 256 * ns (l ++ [c])) / 256 = ns (l ++ [c]) by omega, so l c h, UInt8.ofNat_toNat]; rfl
theorem qh (b : ByteArray) : (∃ m, b = bs m) ∨ Bad b := by
  obtain ⟨⟨l⟩⟩ := b
  match l with
  | [] => exact .inl ⟨0, rfl⟩
  | c :: r =>
    by_cases h : c = 0
    · refine .inr ⟨by show 0 < (c :: r).toArray.size; simp, ?_⟩
      show c.toNat = 0
      rw [h]; rfl
    · refine .inl ⟨ns (r.reverse ++ [c]), ?_⟩
      unfold bs
      rw [so _ _ h]
      simp
def qX (a : GQ) : XQ := ⟨⟨a.num.neg, bs a.num.mag⟩, ⟨a.den.neg, bs a.den.mag⟩⟩
theorem xq_cases (x : XQ) (hs : x.n.b.size * 2 ^ 16 ≤ 70368744177664) : (∃ a : GQ, x = qX a) ∨ ∀ w0, Calls Tryz.prog 62 #[vXQ x] w0 (RetP w0 (.int .i64 5) True) := by
  obtain ⟨⟨s, b⟩, ⟨t, d⟩⟩ := x
  rcases qh b with ⟨m, rfl⟩ | hb
  · rcases qh d with ⟨k, rfl⟩ | hd
    · exact .inl ⟨⟨⟨s, m⟩, ⟨t, k⟩⟩, rfl⟩
    · refine .inr fun w0 => badD_ct ⟨s, m⟩ ?_ ⟨t, d⟩ hd w0
      unfold SzI SzB
      rw [← dg]
      exact hs
  · exact .inr fun w0 => badN_ct ⟨⟨s, b⟩, ⟨t, d⟩⟩ hb w0
end Go.Sx
namespace Go.Sx
theorem kN {a : GI} (h : cd a = 0) : IOk a := by
  intro e
  cases hn : a.neg with
  | false => rfl
  | true =>
    exfalso
    unfold cd at h
    rw [decide_eq_true e, hn] at h
    have h5 : (5 : Int) = 0 := h
    exact absurd h5 (by decide)
theorem oP {a : GQ} (h : bZ a = 0) : QOk a := by
  unfold bZ at h
  have h1 : cd a.num = 0 := Classical.byContradiction fun hn => by
    rw [show (cd a.num != 0) = true from bne_iff_ne.2 hn, Bool.true_or, cond_true] at h
    exact absurd h (by decide)
  have h2 : cd a.den = 0 := Classical.byContradiction fun hn => by
    rw [show (cd a.den != 0) = true from bne_iff_ne.2 hn, Bool.or_true, cond_true] at h
    exact absurd h (by decide)
  rw [h1, h2, show (((0 : Int) != 0) || ((0 : Int) != 0)) = false from rfl, cond_false] at h
  have i1 := kN h1
  have i2 := kN h2
  by_cases e : a.den = z0
  · exact ⟨i1, .inl e, by unfold iS; rw [if_pos e]; exact Nat.coprime_one_right _⟩
  · rw [decide_eq_false (show ¬ a.den = (⟨false, 0⟩ : GI) from e), cond_false] at h
    cases hc : decide (bW a.den rational_one ≤ 0) with
    | true => rw [hc, Bool.true_or, cond_true] at h; have h5 : (5 : Int) = 0 := h; exact absurd h5 (by decide)
    | false =>
      cases hg : decide (aM a.num a.den = rational_one) with
      | false => rw [hc, hg] at h; have h5 : (5 : Int) = 0 := h; exact absurd h5 (by decide)
      | true =>
        have g1 := of_decide_eq_false hc
        have g2 := of_decide_eq_true hg
        rw [jb (b := rational_one) i2 (gU 1), mn] at g1
        have hv : 1 < d6 a.den := by
          unfold icmp at g1
          split at g1
          · omega
          · split at g1
            · omega
            · omega
        have hd : a.den.neg = false ∧ 1 < a.den.mag := by
          unfold d6 at hv
          cases hn : a.den.neg with
          | false => rw [hn] at hv; exact ⟨rfl, by have : (1 : Int) < (a.den.mag : Int) := hv; omega⟩
          | true => rw [hn] at hv; exfalso; have : (1 : Int) < -(a.den.mag : Int) := hv; omega
        refine ⟨i1, .inr hd, ?_⟩
        unfold iS
        rw [if_neg e]
        have k := congrArg d6 g2
        rw [mn] at k
        unfold aM at k
        have k2 : ((Nat.gcd a.num.mag a.den.mag : Nat) : Int) = 1 := k
        exact (by exact_mod_cast k2 : Nat.gcd a.num.mag a.den.mag = 1)
end Go.Sx
namespace Go.Sx
section
variable {α : Type} [Inhabited α]
def mV (σ : GR → GR) (i : Iv) : Iv := ⟨σ i.lo, σ i.hi, i.openLo, i.openHi⟩
def mU (σ : GR → GR) (φ : α → α) (x : U α) : U α := ⟨mV σ x.iv, φ x.f⟩
def Pu (P : GR → Prop) (D : α → Prop) (x : U α) : Prop := (P x.iv.lo ∧ P x.iv.hi) ∧ D x.f
theorem jv {β γ : Type} [Inhabited β] [Inhabited γ] (m : β → γ) {L : List β} {x : Nat} (h : x < L.length) : gt (L.map m) x = m (gt L x) := by
  rw [fJ h, fJ (by rw [List.length_map]; exact h), List.getElem_map]
structure Mv (P : GR → Prop) (D : α → Prop) (eqf : α → α → Bool) (same : α → α → GR → Bool) (red : α → GR → α) (σ : GR → GR) (φ : α → α) : Prop where
  inj : ∀ a b, P a → P b → (σ a = σ b ↔ a = b)
  sm : ∀ f g t, D f → D g → P t → same (φ f) (φ g) (σ t) = same f g t
  rd : ∀ f t, D f → P t → red (φ f) (σ t) = φ (red f t)
  rD : ∀ f t, D f → P t → D (red f t)
  eq : ∀ f g, D f → D g → eqf (φ f) (φ g) = eqf f g
variable {P : GR → Prop} {D : α → Prop} {eqf : α → α → Bool} {same : α → α → GR → Bool} {red : α → GR → α} {σ : GR → GR} {φ : α → α}
omit [Inhabited α] in
theorem Mv.dec (M : Mv P D eqf same red σ φ) {a b : GR} (ha : P a) (hb : P b) : decide (σ a = σ b) = decide (a = b) := decide_eq_decide.2 (M.inj a b ha hb)
omit [Inhabited α] in
theorem Mv.inst (M : Mv P D eqf same red σ φ) {i : Iv} (h : P i.lo ∧ P i.hi) : aJ (mV σ i) = aJ i := by
  unfold aJ; exact M.dec h.1 h.2
theorem ml {L : List (U α)} (hL : ∀ x ∈ L, Pu P D x) {x : Nat} (h : x < L.length) : Pu P D (gt L x) := hL _ (by rw [fJ h]; exact List.getElem_mem _)
theorem Mv.held (M : Mv P D eqf same red σ φ) {out : List (U α)} (ho : ∀ x ∈ out, Pu P D x) {t : GR} (ht : P t) : f7 (out.map (mU σ φ)) (σ t) = f7 out t := by
  unfold f7
  rw [List.length_map]
  by_cases h : 0 < out.length
  · rw [jv _ (by omega)]
    show ((_ && decide (σ (gt out (out.length - 1)).iv.hi = σ t)) && _) = _
    rw [M.dec (ml ho (by omega)).1.2 ht]
    rfl
  · rw [decide_eq_false (by omega : ¬ ((out.length : Nat) : Int) > 0)]; rfl
theorem Mv.bef (M : Mv P D eqf same red σ φ) {L out : List (U α)} (hL : ∀ x ∈ L, Pu P D x) (ho : ∀ x ∈ out, Pu P D x) {x : Nat} (hx : x < L.length) : ot (L.map (mU σ φ)) (out.map (mU σ φ)) x = ot L out x := by
  unfold ot
  rw [List.length_map, jv _ hx]
  by_cases h : 0 < out.length
  · have hp := ml ho (by omega : out.length - 1 < out.length)
    rw [jv _ (by omega)]
    show ((_ && decide (σ (gt out (out.length - 1)).iv.hi = σ (gt L x).iv.lo)) && !(aJ (mV σ (gt out (out.length - 1)).iv))) = _
    rw [M.dec hp.1.2 (ml hL hx).1.1, M.inst hp.1]
  · rw [decide_eq_false (by omega : ¬ ((out.length : Nat) : Int) > 0)]; rfl
omit [Inhabited α] in
theorem rU {out : List (U α)} (ho : ∀ x ∈ out, Pu P D x) {y : U α} (hy : Pu P D y) : ∀ x ∈ out ++ [y], Pu P D x := fun x hx => by
  rcases List.mem_append.1 hx with hx | hx
  · exact ho x hx
  · rw [List.mem_singleton.1 hx]; exact hy
omit [Inhabited α] in
theorem pu_set {out : List (U α)} (ho : ∀ x ∈ out, Pu P D x) {i : Nat} {y : U α} (hy : Pu P D y) : ∀ x ∈ out.set i y, Pu P D x := fun x hx => by
  rcases List.mem_or_eq_of_mem_set hx with hx | rfl
  · exact ho x hx
  · exact hy
theorem Mv.gap (M : Mv P D eqf same red σ φ) {L out : List (U α)} (hL : ∀ x ∈ L, Pu P D x) (ho : ∀ x ∈ out, Pu P D x) {x : Nat} (hx : x < L.length) :
    fE (L.map (mU σ φ)) (out.map (mU σ φ)) x = (fE L out x).map (mU σ φ) ∧ ∀ y ∈ fE L out x, Pu P D y := by
  have h1 := ml hL hx
  have h2 := ml hL (by omega : x - 1 < L.length)
  unfold fE
  rw [jv _ hx, jv _ (by omega : x - 1 < L.length)]
  have e : ((((decide (((x : Nat) : Int) > 0)) && (aJ ((mU σ φ (gt L (x - 1))).iv))) && (decide (((mU σ φ (gt L (x - 1))).iv).lo = ((mU σ φ (gt L x)).iv).lo))) && (!(f7 (out.map (mU σ φ)) (((mU σ φ (gt L x)).iv).lo))))
      = ((((decide (((x : Nat) : Int) > 0)) && (aJ ((gt L (x - 1)).iv))) && (decide (((gt L (x - 1)).iv).lo = ((gt L x).iv).lo))) && (!(f7 out (((gt L x).iv).lo)))) := by
    show ((((decide (((x : Nat) : Int) > 0)) && (aJ (mV σ (gt L (x - 1)).iv))) && (decide (σ ((gt L (x - 1)).iv).lo = σ ((gt L x).iv).lo))) && (!(f7 (out.map (mU σ φ)) (σ ((gt L x).iv).lo)))) = _
    rw [M.inst h2.1, M.dec h2.1.1 h1.1.1, M.held ho h1.1.1]
  rw [e]
  cases ((((decide (((x : Nat) : Int) > 0)) && (aJ ((gt L (x - 1)).iv))) && (decide (((gt L (x - 1)).iv).lo = ((gt L x).iv).lo))) && (!(f7 out (((gt L x).iv).lo))))
  · exact ⟨by rw [cond_false, cond_false, List.map_append]; rfl, by rw [cond_false]; exact rU ho h1⟩
  · exact ⟨by rw [cond_true, cond_true, List.map_append]; rfl, by rw [cond_true]; exact rU ho h1⟩
theorem Mv.pt (M : Mv P D eqf same red σ φ) {L out : List (U α)} (hL : ∀ x ∈ L, Pu P D x) (ho : ∀ x ∈ out, Pu P D x) {x : Nat} (hx : x < L.length) :
    ik same red (L.map (mU σ φ)) (out.map (mU σ φ)) x = (ik same red L out x).map (mU σ φ) ∧ ∀ y ∈ ik same red L out x, Pu P D y := by
  have h1 := ml hL hx
  unfold ik
  rw [jv _ hx, List.length_map]
  have e : (((decide (((x + 1 : Nat) : Int) < ((L.length : Nat) : Int))) && (decide (((gt (L.map (mU σ φ)) (x + 1)).iv).lo = ((mU σ φ (gt L x)).iv).lo))) && (same ((gt (L.map (mU σ φ)) (x + 1)).f) ((mU σ φ (gt L x)).f) (((mU σ φ (gt L x)).iv).lo)))
      = (((decide (((x + 1 : Nat) : Int) < ((L.length : Nat) : Int))) && (decide (((gt L (x + 1)).iv).lo = ((gt L x).iv).lo))) && (same ((gt L (x + 1)).f) ((gt L x).f) (((gt L x).iv).lo))) := by
    by_cases h : x + 1 < L.length
    · have h2 := ml hL h
      rw [jv _ h]
      show ((_ && (decide (σ ((gt L (x + 1)).iv).lo = σ ((gt L x).iv).lo))) && (same (φ (gt L (x + 1)).f) (φ (gt L x).f) (σ (gt L x).iv.lo))) = _
      rw [M.dec h2.1.1 h1.1.1, M.sm _ _ _ h2.2 h1.2 h1.1.1]
    · rw [decide_eq_false (by omega : ¬ ((x + 1 : Nat) : Int) < ((L.length : Nat) : Int))]; rfl
  rw [e]
  cases (((decide (((x + 1 : Nat) : Int) < ((L.length : Nat) : Int))) && (decide (((gt L (x + 1)).iv).lo = ((gt L x).iv).lo))) && (same ((gt L (x + 1)).f) ((gt L x).f) (((gt L x).iv).lo)))
  · refine ⟨?_, by rw [cond_false]; exact rU ho ⟨h1.1, M.rD _ _ h1.2 h1.1.1⟩⟩
    rw [cond_false, cond_false, List.map_append]
    show _ ++ [(⟨mV σ (gt L x).iv, red (φ (gt L x).f) (σ (gt L x).iv.lo)⟩ : U α)] = _
    rw [M.rd _ _ h1.2 h1.1.1]
    rfl
  · exact ⟨rfl, ho⟩
theorem Mv.step (M : Mv P D eqf same red σ φ) {L out : List (U α)} (hL : ∀ x ∈ L, Pu P D x) (ho : ∀ x ∈ out, Pu P D x) {x : Nat} (hx : x < L.length) :
    dD eqf same red (L.map (mU σ φ)) (out.map (mU σ φ)) x = (dD eqf same red L out x).map (mU σ φ) ∧ ∀ y ∈ dD eqf same red L out x, Pu P D y := by
  have h1 := ml hL hx
  obtain ⟨g1, g2⟩ := M.gap hL ho hx
  obtain ⟨p1, p2⟩ := M.pt hL ho hx
  unfold dD
  rw [M.bef hL ho hx, jv _ hx, g1, p1, List.length_map]
  have ei : aJ (mU σ φ (gt L x)).iv = aJ (gt L x).iv := M.inst h1.1
  rw [ei]
  cases hb : ot L out x with
  | false =>
    rw [cond_false, cond_false]
    cases (!(aJ ((gt L x).iv)))
    · exact ⟨rfl, p2⟩
    · exact ⟨rfl, g2⟩
  | true =>
    obtain ⟨b1, _, _⟩ := fS.1 hb
    have ho1 := ml ho (by omega : out.length - 1 < out.length)
    rw [jv _ (by omega : out.length - 1 < out.length), cond_true, cond_true]
    cases (!(aJ ((gt L x).iv)))
    · rw [cond_false, cond_false]
      show (bif (same (φ (gt out (out.length - 1)).f) (φ (gt L x).f) (σ (gt L x).iv.lo)) then _ else _) = _ ∧ _
      rw [M.sm _ _ _ ho1.2 h1.2 h1.1.1]
      cases same (gt out (out.length - 1)).f (gt L x).f (gt L x).iv.lo
      · exact ⟨rfl, p2⟩
      · refine ⟨?_, ?_⟩
        · rw [cond_true, cond_true, List.map_set]; rfl
        · rw [cond_true]; exact pu_set ho ho1
    · rw [cond_true, cond_true]
      show (bif ((!(gt out (out.length - 1)).iv.openHi) && (eqf (φ (gt out (out.length - 1)).f) (φ (gt L x).f))) then _ else _) = _ ∧ _
      rw [M.eq _ _ ho1.2 h1.2]
      cases ((!(gt out (out.length - 1)).iv.openHi) && (eqf (gt out (out.length - 1)).f (gt L x).f))
      · exact ⟨rfl, g2⟩
      · refine ⟨?_, ?_⟩
        · rw [cond_true, cond_true, List.map_set]; rfl
        · rw [cond_true]; exact pu_set ho ⟨⟨ho1.1.1, h1.1.2⟩, ho1.2⟩
omit [Inhabited α] in
theorem Mv.at1 (M : Mv P D eqf same red σ φ) {u : U α} (h : Pu P D u) : atU (mU σ φ u) = (atU u).map (mU σ φ) ∧ ∀ y ∈ atU u, Pu P D y := by
  unfold atU
  rw [show aJ (mU σ φ u).iv = aJ u.iv from M.inst h.1]
  have e1 : (mU σ φ u).iv.openLo = u.iv.openLo := rfl
  have e2 : (mU σ φ u).iv.openHi = u.iv.openHi := rfl
  rw [e1, e2]
  obtain ⟨⟨a, b⟩, c⟩ := h
  cases u.iv.openLo <;> cases aJ u.iv <;> cases u.iv.openHi <;>
    exact ⟨rfl, fun y hy => by
      simp only [cond_true, cond_false, List.mem_append, List.mem_cons, List.not_mem_nil, or_false, false_or] at hy <;> first
        | (rcases hy with rfl | rfl | rfl <;> first | exact ⟨⟨a, a⟩, c⟩ | exact ⟨⟨b, b⟩, c⟩ | exact ⟨⟨a, b⟩, c⟩)
        | (rcases hy with rfl | rfl <;> first | exact ⟨⟨a, a⟩, c⟩ | exact ⟨⟨b, b⟩, c⟩ | exact ⟨⟨a, b⟩, c⟩)
        | (rcases hy with rfl <;> first | exact ⟨⟨a, a⟩, c⟩ | exact ⟨⟨b, b⟩, c⟩ | exact ⟨⟨a, b⟩, c⟩)⟩
omit [Inhabited α] in
theorem Mv.ats (M : Mv P D eqf same red σ φ) : ∀ {n : List (U α)}, (∀ x ∈ n, Pu P D x) → (n.map (mU σ φ)).flatMap atU = (n.flatMap atU).map (mU σ φ) ∧ ∀ y ∈ n.flatMap atU, Pu P D y
  | [], _ => ⟨rfl, fun _ h => by cases h⟩
  | u :: n, h => by
    obtain ⟨e1, e2⟩ := M.at1 (h u (List.mem_cons_self ..))
    obtain ⟨e3, e4⟩ := M.ats (n := n) fun x hx => h x (List.mem_cons_of_mem _ hx)
    refine ⟨?_, fun y hy => ?_⟩
    · rw [List.map_cons, List.flatMap_cons, List.flatMap_cons, List.map_append, e1, e3]
    · rw [List.flatMap_cons] at hy
      rcases List.mem_append.1 hy with hy | hy
      · exact e2 y hy
      · exact e4 y hy
end
section
variable {α β : Type} [Inhabited α] {c : α → α → Int} {c' : β → β → Int} {m : α → β} {S : α → Prop}
omit [Inhabited α] in
omit [Inhabited α] in
end
structure MvV (h : GQ) (p : Pnt) (f g : Ln) : Prop where
  ok : LOk g
  x0 : aX g.x0 = aX f.x0 - aX h * aX f.x1 + aX p.x
  x1 : g.x1 = f.x1
  y0 : aX g.y0 = aX f.y0 - aX h * aX f.y1 + aX p.y
  y1 : g.y1 = f.y1
theorem MvV.uniq {h : GQ} {p : Pnt} {f g k : Ln} (a : MvV h p f g) (b : MvV h p f k) : g = k :=
  Ln.ext4 (dF a.ok.1 b.ok.1 (by rw [a.x0, b.x0])) (a.x1.trans b.x1.symm) (dF a.ok.2.2.1 b.ok.2.2.1 (by rw [a.y0, b.y0])) (a.y1.trans b.y1.symm)
section
variable [K : Key]
end
end Go.Sx
namespace Go.Sx
def p0 : Pnt := ⟨zQ, zQ⟩
section
variable [K : Key] [KeyB]
end
end Go.Sx
namespace Go.Sx
open Go Go.RowKit Go.Proofs
set_option maxRecDepth 100000
set_option maxHeartbeats 40000000
attribute [local irreducible] Code.wp wpList Rd Step ObS Ent
attribute [local irreducible] aq aK ak au ay bA an aH
attribute [local irreducible] aD aL aj av aP ah aR cP gV bH ar
def xsz (x : XQ) : Nat := x.n.b.size + x.d.b.size
def Gd (x : XQ) : Prop := ∃ a : GQ, x = qX a ∧ QOk a ∧ a.num.mag < 2 ^ 64 ∧ a.den.mag < 2 ^ 64
theorem gP (x : XQ) (hs : xsz x ≤ 8) : ∃ e : Int, (∀ w0, Calls Tryz.prog 62 #[vXQ x] w0 (RetP w0 (.int .i64 e) True)) ∧ (e = 0 → Gd x) := by
 unfold xsz at hs
 rcases xq_cases x (by have : x.n.b.size ≤ 8 := by omega
                       exact Nat.le_trans (Nat.mul_le_mul_right _ this) (by decide)) with ⟨a, rfl⟩ | h
 · have h1 : (le a.num.mag).length ≤ 8 := by rw [← dg]; have : (bs a.num.mag).size + (bs a.den.mag).size ≤ 8 := hs; omega
   have h2 : (le a.den.mag).length ≤ 8 := by rw [← dg]; have : (bs a.num.mag).size + (bs a.den.mag).size ≤ 8 := hs; omega
   have za : SzQ 16 a := ⟨Nat.le_trans (Nat.mul_le_mul_right _ h1) (by decide), Nat.le_trans (Nat.mul_le_mul_right _ h2) (by decide)⟩
   exact ⟨bZ a, fun w0 => dk a za w0, fun e => ⟨a, rfl, oP e, (bI 8 _).1 h1, (bI 8 _).1 h2⟩⟩
 · exact ⟨5, h, fun e => absurd e (by decide)⟩
theorem sh27X : Sh Tryz.prog 27 XQ vXQ := ⟨trivial⟩
theorem sh25Y : Sh Tryz.prog 25 XI vXI := ⟨trivial⟩
section
attribute [local instance 2000] sh27X sh25Y
end
end Go.Sx
namespace Go.Sx
open Go Go.RowKit Go.Proofs
set_option maxRecDepth 100000
set_option maxHeartbeats 40000000
attribute [local irreducible] Code.wp wpList Rd Step ObS Ent
attribute [local irreducible] aq aK ak au ay bA an aH
attribute [local irreducible] aD aL aj av aP ah aR cP gV bH ar
def Gq (a : GQ) : Prop := QOk a ∧ a.num.mag < 2 ^ 64 ∧ a.den.mag < 2 ^ 64
theorem gq_bq {a : GQ} (k : Gq a) : Bq 64 a := Bq.self k.1 k.2.1 (by
 unfold iS
 by_cases e : a.den = z0
 · rw [if_pos e]; decide
 · rw [if_neg e]; exact k.2.2)
theorem bld29' : Bu Tryz.prog 29 [] [] (vPt ⟨oQ, oQ⟩) := Bu.of bld29 rfl rfl
theorem bld27' : Bu Tryz.prog 27 [] [] (vQ oQ) := Bu.of kb rfl rfl
attribute [local instance] bld29' bld27'
end Go.Sx
namespace Go.Sx
open Go Go.RowKit Go.Proofs Go.ChangeShapes Go.WideShapes
set_option maxRecDepth 100000
section
variable {H : Type} {enc : TypeId × Value → H} {W : World} {base : Nat} {sp : Nat → Bool} {held : Bool}
def dXI (x : XI) : DataW H := .agg [.lit (.bool x.neg), .lit (.string x.b.data.toList)]
def dXQ (x : XQ) : DataW H := .agg [dXI x.n, dXI x.d]
theorem pA {fuel : Nat} {cs : List Value} {x : DataW H × List MemPlace} (h : DataW.trod enc Tryz.prog W base sp held fuel 25 cs = some x) : ∃ i : XI, cs = cXI i ∧ x.1 = dXI i := by
  obtain ⟨xs, n, _, hx, hlen, hxl, hf⟩ := DataW.trod_struct nn25 h
  rw [show Tryz.prog.cellsOf 25 = 2 by kernel_rfl] at hlen
  obtain ⟨c0, c1, rfl⟩ : ∃ c0 c1, cs = [c0, c1] := by
    match cs, hlen with
    | [c0, c1], _ => exact ⟨_, _, rfl⟩
  have k4 : Tryz.prog.cellsOf 4 = 1 := by kernel_rfl
  have k9 : Tryz.prog.cellsOf 9 = 1 := by kernel_rfl
  have f0 : DataW.trod enc Tryz.prog W base sp held n 4 (([c0, c1].drop 0).take (Tryz.prog.cellsOf 4)) = xs[0]? := hf 0 _ rfl
  have f1 : DataW.trod enc Tryz.prog W base sp held n 9 (([c0, c1].drop 1).take (Tryz.prog.cellsOf 9)) = xs[1]? := hf 1 _ rfl
  rw [k4] at f0
  rw [k9] at f1
  obtain ⟨y0, y1, rfl⟩ : ∃ y0 y1, xs = [y0, y1] := by
    have : xs.length = 2 := hxl
    match xs, this with
    | [y0, y1], _ => exact ⟨_, _, rfl⟩
  obtain ⟨b, e0, d0⟩ := DataW.trod_bool Tryz.underlying4 f0
  obtain ⟨s, e1, d1, _⟩ := DataW.trod_string Tryz.underlying9 f1
  simp at e0 e1
  subst e0 e1
  refine ⟨⟨b, s⟩, rfl, ?_⟩
  rw [hx, d0, d1]; rfl
theorem l5 {fuel : Nat} {cs : List Value} {x : DataW H × List MemPlace} (h : DataW.trod enc Tryz.prog W base sp held fuel 27 cs = some x) : ∃ i : XQ, cs = cXQ i ∧ x.1 = dXQ i := by
  obtain ⟨xs, n, _, hx, hlen, hxl, hf⟩ := DataW.trod_struct nn27 h
  rw [show Tryz.prog.cellsOf 27 = 4 by kernel_rfl] at hlen
  have k25 : Tryz.prog.cellsOf 25 = 2 := by kernel_rfl
  have f0 : DataW.trod enc Tryz.prog W base sp held n 25 ((cs.drop 0).take (Tryz.prog.cellsOf 25)) = xs[0]? := hf 0 _ rfl
  have f1 : DataW.trod enc Tryz.prog W base sp held n 25 ((cs.drop 2).take (Tryz.prog.cellsOf 25)) = xs[1]? := hf 1 _ rfl
  rw [k25] at f0 f1
  obtain ⟨y0, y1, rfl⟩ : ∃ y0 y1, xs = [y0, y1] := by
    have : xs.length = 2 := hxl
    match xs, this with
    | [y0, y1], _ => exact ⟨_, _, rfl⟩
  obtain ⟨i, e0, d0⟩ := pA f0
  obtain ⟨j, e1, d1⟩ := pA f1
  refine ⟨⟨i, j⟩, ?_, ?_⟩
  · show cs = cXI i ++ cXI j
    rw [← e0, ← e1]
    match cs, hlen with
    | [a, b, c, d], _ => rfl
  · rw [hx]
    show DataW.agg [y0.1, y1.1] = DataW.agg [dXI i, dXI j]
    rw [d0, d1]
theorem w_xq (x : XQ) : DataW.weights Tryz.prog 27 (dXQ (H := H) x) = [x.n.b.data.toList.length, x.d.b.data.toList.length] := by
  unfold dXQ dXI
  simp [DataW.weights, DataW.weightsEach, nn27, nn25]
end
end Go.Sx
namespace Go.Sx
open Go Go.RowKit Go.Proofs
set_option maxRecDepth 100000
set_option maxHeartbeats 40000000
attribute [local irreducible] Code.wp wpList Rd Step ObS Ent
attribute [local irreducible] aq aK ak au ay bA an
attribute [local irreducible] aD aL aj av aP ah aR cP gV
def kF (l : List Smp) (i : Nat) : Bool := decide (aR (gt l (i - 1)).t (gt l i).t ≥ 0)
def frT (l : List Smp) : List (U Ln) := if l.length = 1 then [frO l] else frP l (l.length - 1)
def frW (l : List Smp) (N : List (U Ln)) : List (U Ln) × Int :=
 if 256 < l.length then ([], 3) else if ∃ i, i < l.length ∧ te (gt l i) = true then ([], 5) else if ∃ i, i < l.length ∧ (1 ≤ i ∧ kF l i = true) then ([], 7)
 else (N, 0)
theorem frW_ct (l : List Smp) (lv : Value) (hl : l.length ≤ 1000) (zl : ∀ i, tu 40 (gt l i)) (N : List (U Ln)) (e9 : Int) (p : Prop) (hN : ∀ lv' w, View w lv' (frT l) → Calls Tryz.prog 47 #[lv'] w (RetT w 88 N [.int .i64 e9] p)) (w0 : World) (hlv : View w0 lv l) : Calls Tryz.prog 17 #[lv] w0 (RetT w0 88 (frW l N).1 [.int .i64 (frW l N).2] True) := by
 refine enter (N := 129) (args := [lv]) Tryz.func17 rfl rfl ?_; intro ac h
 have hlen := hlv.len
 refine gz h <| (ai) ?_ ?_ <;> clear h ac <;> intro ac wo h hc1
 ·
  have hd : frW l N = ([], 3) := by unfold frW; rw [if_pos (by have := of_decide_eq_true hc1; omega)]
  rw [hd]
  refine gz h <| (W) ?_; clear h ac wo; intro ac wo h
  replace h := h.nilRow (α := U Ln) 88
  exact (rt h) (h.retT 0 rfl rfl trivial)
 have h256 : ¬ 256 < l.length := by have := of_decide_eq_false hc1; omega
 refine gz h <| (W) ?_; clear h ac wo; intro ac wo h
 refine wp_loop_ghost (fun n_ a_ w_ => ∃ (i : Nat), (l.length - i < n_) ∧ (i ≤ l.length) ∧ (∀ j, j < i → te (gt l j) = false) ∧ St w0 129 [(0, lv), (4, iN i)] [] a_ w_) (l.length + 1) ⟨0, by omega, by omega, fun j hj => by omega, h.rs⟩ ?_
 clear h ac wo; rintro n1 ac wo ⟨i, hm1, hi, hB, h⟩
 obtain ⟨m1, rfl⟩ : ∃ m, n1 = m + 1 := ⟨n1 - 1, by omega⟩
 refine gz h <| (ai) ?_ ?_ <;> clear h ac wo <;> intro ac wo h hc2
 ·
  have hd1 : i < l.length := by have := of_decide_eq_true hc2; omega
  have zi := zl i
  have n1' := hlv.nn hd1
  have c1 := dk (gt l i).t (bM zi.1 og)
  have c2 := dk (gt l i).p.x (bM zi.2.1 og)
  have c3 := dk (gt l i).p.y (bM zi.2.2 og)
  refine gz h <| (xk c1) <| (xg (hs := by exact fun hg => ef enA (kk c2))) <| (xg (hs := by exact fun hg => ef enA (kk c3))) <| (ai) ?_ ?_ <;> clear h ac wo <;> intro ac wo h hc3
  ·
   have hd : frW l N = ([], 5) := by unfold frW; rw [if_neg h256, if_pos ⟨i, hd1, hc3⟩]
   rw [hd]
   refine gz h <| (W) ?_; clear h ac wo; intro ac wo h
   replace h := h.nilRow (α := U Ln) 88
   exact (rt h) (h.retT 0 rfl rfl trivial)
  ·
   refine gz h <| (W) ?_; clear h ac wo; intro ac wo h
   refine aG ⟨m1, by omega, i + 1, by omega, by omega, fun j hj => ?_, h.re []⟩
   by_cases e : j = i
   · subst e; exact hc3
   · exact hB j (by omega)
 obtain rfl : i = l.length := by have := of_decide_eq_false hc2; omega
 have h5 : ¬ ∃ i, i < l.length ∧ te (gt l i) = true := fun ⟨i, h1, h2⟩ => by rw [hB i h1] at h2; cases h2
 clear hB hm1
 refine gz h <| (W) ?_; clear h ac wo; intro ac wo h
 refine wp_loop_ghost (fun n_ a_ w_ => ∃ (i : Nat), (l.length - i < n_) ∧ (1 ≤ i) ∧ (i ≤ l.length ∨ i = 1) ∧ (∀ j, 1 ≤ j → j < i → kF l j = false) ∧ St w0 129 [(0, lv), (5, iN i)] [] a_ w_) (l.length + 1) ⟨1, by omega, by omega, by omega, fun j hj hk => by omega, h.re []⟩ ?_
 clear h ac wo; rintro n1 ac wo ⟨i, hm1, hi1, hi, hB, h⟩
 obtain ⟨m1, rfl⟩ : ∃ m, n1 = m + 1 := ⟨n1 - 1, by omega⟩
 refine gz h <| (ai) ?_ ?_ <;> clear h ac wo <;> intro ac wo h hc2
 ·
  have hd1 : i < l.length := by have := of_decide_eq_true hc2; omega
  have hd0 : i - 1 < l.length := by omega
  have zi := zl i
  have zj := zl (i - 1)
  have n1' := hlv.nn hd1
  have c1 := d8 (gt l (i - 1)).t (gt l i).t 30 og (bM zj.1 og) (bM zi.1 og)
  refine gz h <| (dr0 (hob := (oK c1) <| oE)) <| (ai) ?_ ?_ <;> clear h ac wo <;> intro ac wo h hc3
  ·
   have hd : frW l N = ([], 7) := by
    unfold frW; rw [if_neg h256, if_neg h5, if_pos ⟨i, hd1, hi1, hc3⟩]
   rw [hd]
   refine gz h <| (W) ?_; clear h ac wo; intro ac wo h
   replace h := h.nilRow (α := U Ln) 88
   exact (rt h) (h.retT 0 rfl rfl trivial)
  ·
   refine gz h <| (W) ?_; clear h ac wo; intro ac wo h
   refine aG ⟨m1, by omega, i + 1, by omega, by omega, by omega, fun j hj hk => ?_, h.re []⟩
   by_cases e : j = i
   · subst e; exact hc3
   · exact hB j hj (by omega)
 have hge : l.length ≤ i := by have := of_decide_eq_false hc2; omega
 have h7 : ¬ ∃ i, i < l.length ∧ (1 ≤ i ∧ kF l i = true) := fun ⟨j, h1, h0, h2⟩ => by rw [hB j h0 (by omega)] at h2; cases h2
 clear hB hm1
 have hd : frW l N = (N, 0) := by unfold frW; rw [if_neg h256, if_neg h5, if_neg h7]
 rw [hd]; clear hd h5 h7 hge hc2
 refine gz h <| (W) ?_; clear h ac wo; intro ac wo h
 replace h := h.nilRow (α := U Ln) 88
 refine gz h <| (W) ?_; clear h ac wo; intro ac wo h
 refine wp_loop_ghost (fun n_ a_ w_ => ∃ (i : Nat) (sv : Value), (l.length - i < n_) ∧ (i + 1 ≤ l.length ∨ i = 0) ∧ St w0 129 [(0, lv), (6, sv), (7, iN i)] [.row (α := U Ln) 88 sv (frP l i)] a_ w_) (l.length + 1) ⟨0, _, by omega, by omega, h.re [0]⟩ ?_
 clear h ac wo hi hi1 i; rintro n1 ac wo ⟨i, sv, hm1, hi, h⟩
 obtain ⟨m1, rfl⟩ : ∃ m, n1 = m + 1 := ⟨n1 - 1, by omega⟩
 refine gz h <| (ai) ?_ ?_ <;> clear h ac wo <;> intro ac wo h hc2
 ·
  have hlt2 : i + 1 < l.length := by have := of_decide_eq_true hc2; omega
  have hlt : i < l.length := by omega
  have n1' := hlv.nn hlt
  have za := zl i
  have zb := zl (i + 1)
  have c3 := cm (gt l i).t 40 og za.1
  have c4 := cm (gt l (i + 1)).t 40 og zb.1
  have c5 := lF (gt l i) (gt l (i + 1)) ⟨za, zb⟩
  obtain ⟨v, hv⟩ : ∃ v : Iv, (⟨an (gt l i).t, an (gt l (i + 1)).t, decide ((i : Int) > 0), false⟩ : Iv) = v := ⟨_, rfl⟩
  obtain ⟨u, hu⟩ : ∃ u : U Ln, (⟨v, cP (gt l i) (gt l (i + 1))⟩ : U Ln) = u := ⟨_, rfl⟩
  have eu : u = frF l i := by
   rw [← hu, ← hv]; unfold frF
   have : decide ((i : Int) > 0) = decide (0 < i) := decide_eq_decide.mpr (by omega)
   rw [this]
  refine gz h <| (W) ?_; clear h ac wo; intro ac wo h
  replace h := h.emps 1
  refine d4 mixed [dv _, dv _, dv _, dv _, dv (vQ (gt l i).t), dv (vR (an (gt l i).t)), dv _, dv _, dv _, dv _, dv _, dv (vQ (gt l (i + 1)).t), dv (vR (an (gt l (i + 1)).t)), dv _, dv _, dv (vV v), ⟨.nd (.one 16 fun v => ∃ b, v = ptr b 0), [1]⟩, dw undef [1]]
   [⟨_, []⟩, ⟨.emp, [(16, .one 16 fun x => .blk (bp x) (cV default) 86), (17, .one 16 fun x => .blk (bp x) (cV v) 86)]⟩] h rfl (by kernel_rfl)
   ⟨oA obA, oA obA, oA obA, oA obA, oA obA, oA fun _ => fT (fg Tryz.call88 rfl c3), oA obA, oA obA, oA obA, oA obA, oA obA, oA obA, oA fun _ => fT (fg Tryz.call88 rfl c4), oA obA, oA obA, (by rw [← hv]; exact oA fun _ => a7 (bD kT rfl rfl rfl)), fun _ _ => lc 1 rfl (fun _ => rfl), fun ξ hφ => la (u := vV v) 1 (hφ 16 rfl) rfl rfl rfl rfl rfl rfl rfl, trivial⟩ ?_
  clear h ac wo; intro ξ ac wo hφ h
  obtain ⟨b8, hb8⟩ : ∃ b, ξ 16 = ptr b 0 := hφ 16
  replace h : St w0 129 [(0, lv), (6, sv), (7, iN i), (8, ξ 16)] [.row (α := U Ln) 88 sv (frP l i), .blk (bp (ξ 16)) (cV v) 86] ac wo := h.sub ⟨rfl, rfl, rfl, rfl, trivial⟩
  rw [hb8] at h
  clear hb8 hφ ξ
  refine gz h <| (W) ?_; clear h ac wo; intro ac wo h
  replace h := h.emps 1
  refine d4 mixed [dv _, dw (vV v) [1], dv _, dv _, dv _, dv (vSm (gt l i)), dv _, dv _, dv _, dv _, dv (vSm (gt l (i + 1))), dv (vN (cP (gt l i) (gt l (i + 1)))), dv (vUN u), ⟨.nd (.one 13 fun v => NN v 1), [2]⟩, ⟨.nd (.con True), [0, 2]⟩, ⟨.nd (.two 15 14 fun a b => a = b), []⟩]
   [⟨.row (α := U Ln) 88 sv (frP l i), [(14, .one 14 fun v => .row (α := U Ln) 88 v (frP l i ++ [u]))]⟩, ⟨_, []⟩, ⟨.emp, [(13, .one 13 fun v => .row (α := U Ln) 88 v [u])]⟩] h rfl (by kernel_rfl)
   ⟨oA obA, oA obA, oA obA, oA obA, oA obA, oA obA, oA obA, oA obA, oA obA, oA obA, oA obA, oA fun _ => fT (fg Tryz.call90 rfl c5), (by rw [← hu]; exact oA fun _ => a7 (bD sZ rfl rfl rfl)), fun _ _ => nv 2 u kt rfl rfl, fun _ _ => ob_ap (j := 13) 0 2 kt rfl rfl (by rw [kO]; omega) rfl (fun v => by simp only [cc, bc] <;> rfl), fun _ _ => oT (j := 14) (by decide) rfl, trivial⟩ ?_
  clear h ac wo; intro ξ ac wo hφ h
  replace h : St w0 129 [(0, lv), (6, ξ 15), (7, iN i)] [.row (α := U Ln) 88 (ξ 14) (frP l i ++ [u])] ac wo := (h.pick [0] (by decide)).sub ⟨rfl, rfl, rfl, trivial⟩
  rw [show ξ 15 = ξ 14 from hφ 15, eu, ← p9] at h
  generalize ξ 14 = s2 at h; clear hφ ξ
  refine gz h <| (W) ?_; clear h ac wo; intro ac wo h
  exact aG ⟨m1, by omega, i + 1, s2, by omega, by omega, h.re [0]⟩
 have hge : l.length ≤ i + 1 := by have := of_decide_eq_false hc2; omega
 refine gz h <| (W) ?_; clear h ac wo; intro ac wo h
 refine jn (fun a w => ∃ sv, St w0 129 [(6, sv)] [.row (α := U Ln) 88 sv (frT l)] a w) ?_ ?_
 ·
  refine gz h <| (ai) ?_ ?_ <;> clear h ac wo <;> intro ac wo h hc3
  ·
   have h1 : l.length = 1 := by have := of_decide_eq_true hc3; omega
   have z0 := zl 0
   have c1 := cm (gt l 0).t 40 og z0.1
   have c2 := pC (gt l 0).p 40 og z0.2
   have hlt : 0 < l.length := by omega
   have n1' := hlv.nn hlt
   have ei : frP l i = [] := by rw [show i = 0 by omega]; rfl
   rw [ei] at h
   refine gz h <| (xk c1) <| (xa) fun b1 => (W) ?_; clear h ac wo; intro ac wo h
   replace h := h.emps 1
   obtain ⟨u, hu⟩ : ∃ u : U Ln, frO l = u := ⟨_, rfl⟩
   refine d4 mixed [dv _, dw (vR (an (gt l 0).t)) [0], dw (vR (an (gt l 0).t)) [0], dv (vV ⟨an (gt l 0).t, an (gt l 0).t, false, false⟩), dv _, dv _, dv _, dv (vPt (gt l 0).p), dv (vN (gV (gt l 0).p)), dv (vUN u), ⟨.nd (.one 10 fun v => NN v 1), [2]⟩, ⟨.nd (.con True), [1, 2]⟩, ⟨.nd (.two 12 11 fun a b => a = b), []⟩]
    [⟨_, []⟩, ⟨.row (α := U Ln) 88 sv [], [(11, .one 11 fun v => .row (α := U Ln) 88 v ([] ++ [u]))]⟩, ⟨.emp, [(10, .one 10 fun v => .row (α := U Ln) 88 v [u])]⟩] h rfl (by kernel_rfl)
    ⟨oA obA, oA obA, oA obA, oA fun _ => a7 (bD kT rfl rfl rfl), oA obA, oA obA, oA obA, oA obA, oA fun _ => fT (fg Tryz.call91 rfl c2), (by rw [← hu]; exact oA fun _ => a7 (bD sZ rfl rfl rfl)), fun _ _ => nv 2 u kt rfl rfl, fun _ _ => ob_ap (j := 10) 1 2 kt rfl rfl (by show 0 + 1 ≤ _; omega) rfl (fun v => by simp only [cc, bc] <;> rfl), fun _ _ => oT (j := 11) (by decide) rfl, trivial⟩ ?_
   clear h ac wo; intro ξ ac wo hφ h
   replace h : St w0 129 [(6, ξ 12)] [.row (α := U Ln) 88 (ξ 11) ([] ++ [u])] ac wo := (h.pick [1] (by decide)).sub ⟨rfl, trivial⟩
   rw [show ξ 12 = ξ 11 from hφ 12] at h
   have et : frT l = [] ++ [u] := by unfold frT; rw [if_pos h1, hu]; rfl
   exact ⟨rfl, _, by rw [et]; exact h⟩
  ·
   have h1 : ¬ l.length = 1 := by have := of_decide_eq_false hc3; omega
   have et : frT l = frP l i := by
    unfold frT; rw [if_neg h1]; congr 1; omega
   refine gz h <| (W) ?_; clear h ac wo; intro ac wo h
   exact ⟨rfl, sv, by rw [et]; exact h.re [0]⟩
 ·
  clear h ac wo; rintro ac wo ⟨s3, h⟩
  refine gz h <| (W) ?_; clear h ac wo; intro ac wo h
  refine mT (xs := N) h (dH Tryz.call47 rfl) (fun w_ hB_ hS_ => hN s3 w_ (row_view hS_ 0 rfl)) rfl ?_; clear h ac wo; intro s2 ac wo _ h
  refine gz h <| (W) ?_; clear h ac wo; intro ac wo h
  exact (rt h) (h.retT 0 rfl rfl trivial)
end Go.Sx
namespace Go.Sx
open Go Go.RowKit Go.Proofs
set_option maxRecDepth 100000
set_option maxHeartbeats 40000000
attribute [local irreducible] Code.wp wpList Rd Step ObS Ent
attribute [local irreducible] aq aK ak au ay bA an
attribute [local irreducible] aD aL aj av aP ah aR cP gV
def qC (p q : Pnt) : Pnt := ⟨av p.x q.x, av p.y q.y⟩
def nr (p q : Pnt) : Pnt := ⟨ah p.x q.x, ah p.y q.y⟩
def i0 (p : Pnt) (r : GQ) : Pnt := ⟨aj p.x r, aj p.y r⟩
def d9 (a b : Pnt) (r : GQ) : Pnt := qC a (i0 (nr b a) r)
theorem plAdd_ct (p q : Pnt) (k : Nat) (hk : k + 3 ≤ 40) (zp : qj (k + 3) p) (zq : qj (k + 3) q) (w0 : World) : Calls Tryz.prog 104 #[vPt p, vPt q] w0 (RetP w0 (vPt (qC p q)) (qj k (qC p q))) := by
 refine enter (N := 16) (args := [vPt p, vPt q]) Tryz.func104 rfl rfl ?_; intro ac h
 have c1 := bq p.x q.x k og zp.1 zq.1
 have c2 := bq p.y q.y k og zp.2 zq.2
 refine gz h <| (xb) fun b1 => (xb) fun b2 => (xa) fun b3 => (dr1 (H := [⟨.blk b3 (cPt ⟨oQ, oQ⟩) 29, [(11, .con (.blk b3 (cPt (qC p q)) 29))]⟩, ⟨_, []⟩, ⟨_, []⟩]) (hob := (oK c1) <| (oK c2) <| oE)) <| (W) ?_; clear h ac; intro ac wo h
 exact rtc 0 h (h.retP (u := vPt (qC p q)) rfl ⟨am (c1 w0), am (c2 w0)⟩)
theorem plSub_ct (p q : Pnt) (k : Nat) (hk : k + 3 ≤ 40) (zp : qj (k + 3) p) (zq : qj (k + 3) q) (w0 : World) : Calls Tryz.prog 106 #[vPt p, vPt q] w0 (RetP w0 (vPt (nr p q)) (qj k (nr p q))) := by
 refine enter (N := 16) (args := [vPt p, vPt q]) Tryz.func106 rfl rfl ?_; intro ac h
 have c1 := bu p.x q.x k og zp.1 zq.1
 have c2 := bu p.y q.y k og zp.2 zq.2
 refine gz h <| (xb) fun b1 => (xb) fun b2 => (xa) fun b3 => (dr1 (H := [⟨.blk b3 (cPt ⟨oQ, oQ⟩) 29, [(11, .con (.blk b3 (cPt (nr p q)) 29))]⟩, ⟨_, []⟩, ⟨_, []⟩]) (hob := (oK c1) <| (oK c2) <| oE)) <| (W) ?_; clear h ac; intro ac wo h
 exact rtc 0 h (h.retP (u := vPt (nr p q)) rfl ⟨am (c1 w0), am (c2 w0)⟩)
theorem qB (p : Pnt) (r : GQ) (k : Nat) (hk : k + 2 ≤ 40) (zp : qj (k + 2) p) (zr : SzQ (k + 2) r) (w0 : World) : Calls Tryz.prog 105 #[vPt p, vQ r] w0 (RetP w0 (vPt (i0 p r)) (qj k (i0 p r))) := by
 refine enter (N := 14) (args := [vPt p, vQ r]) Tryz.func105 rfl rfl ?_; intro ac h
 have c1 := aT p.x r k og zp.1 zr
 have c2 := aT p.y r k og zp.2 zr
 refine gz h <| (xb) fun b1 => (xb) fun b2 => (xa) fun b3 => (dr1 (H := [⟨.blk b3 (cPt ⟨oQ, oQ⟩) 29, [(9, .con (.blk b3 (cPt (i0 p r)) 29))]⟩, ⟨_, []⟩, ⟨_, []⟩]) (hob := (oK c1) <| (oK c2) <| oE)) <| (W) ?_; clear h ac; intro ac wo h
 exact rtc 0 h (h.retP (u := vPt (i0 p r)) rfl ⟨am (c1 w0), am (c2 w0)⟩)
instance yW8_55 : Cf Tryz.prog 104 := ⟨Tryz.call104⟩
instance yW8_56 : Cf Tryz.prog 105 := ⟨Tryz.call105⟩
instance yW8_57 : Cf Tryz.prog 106 := ⟨Tryz.call106⟩
def cSg (a b : Pnt) : List Value := cPt a ++ cPt b
def vSg (a b : Pnt) : Value := .agg (cSg a b).toArray
instance yW8_58 (a b : Pnt) : Cel (vSg a b) (cSg a b) := ⟨rfl⟩
instance yW8_59 (a b : Pnt) : Dc (cSg a b) (vSg a b) := ⟨rfl⟩
instance yW8_60 : Sz Tryz.prog 47 16 := ⟨Tryz.sizeOf47⟩
instance yW8_61 : Ag Tryz.prog 47 true := ⟨Tryz.isAgg47⟩
instance yW8_62 : Fl Tryz.prog 47 0 29 0 := ⟨⟨_, _, uu47, rfl, rfl, rfl⟩⟩
instance yW8_63 : Fl Tryz.prog 47 1 29 8 := ⟨⟨_, _, uu47, rfl, rfl, rfl⟩⟩
theorem oR (a b : Pnt) (r : GQ) (za : qj 40 a) (zb : qj 40 b) (zr : SzQ 40 r) (w0 : World) : Calls Tryz.prog 24 #[vSg a b, vQ r] w0 (RetP w0 (vPt (d9 a b r)) (qj 30 (d9 a b r))) := by
 refine enter (N := 15) (args := [vSg a b, vQ r]) Tryz.func24 rfl rfl ?_; intro ac h
 have c1 := plSub_ct b a 37 og zb za
 have s1 := am (c1 w0)
 have c2 := qB (nr b a) r 33 og ⟨bM s1.1 og, bM s1.2 og⟩ (bM zr og)
 have s2 := am (c2 w0)
 have c3 := plAdd_ct a (i0 (nr b a) r) 30 og ⟨bM za.1 og, bM za.2 og⟩ s2
 refine gz h <| (xb) fun b1 => (xb) fun b2 => (xa) fun b3 => (dr1 (H := [⟨.blk b3 (cPt ⟨oQ, oQ⟩) 29, [(10, .con (.blk b3 (cPt (d9 a b r)) 29))]⟩, ⟨_, []⟩, ⟨_, []⟩]) (hob := (oK c1) <| (oK c2) <| (oK c3) <| oE)) <| (W) ?_; clear h ac; intro ac wo h
 exact rtc 0 h (h.retP (u := vPt (d9 a b r)) rfl (am (c3 w0)))
end Go.Sx
