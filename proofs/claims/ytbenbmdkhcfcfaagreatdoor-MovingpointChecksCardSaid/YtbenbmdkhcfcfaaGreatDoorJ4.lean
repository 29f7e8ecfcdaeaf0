/- A part of the proof of movingpointChecks. -/
import Derived.Test.YtbenbmdkhcfcfaaGreatDoorJ3
import Derived.Shelf.SlSortCmp.WholeK
import Derived.Test.YtbenbmdkhcfcfaaGreatDoorProg
import Derived.Test.YtbenbmdkhcfcfaaGreatDoorJ2
import Derived.Test.YtbenbmdkhcfcfaaGreatDoorH4
set_option linter.unusedVariables false
set_option linter.unusedSimpArgs false
open Go.Proofs.Tryz renaming isAgg3 → aa3, runUnderlying93 → uu93, runUnderlying293 → uu293, runUnderlying232 → uu232, runUnderlying80 → uu80, underlying25 → nn25, underlying27 → nn27, runUnderlying47 → uu47
namespace Go.Sx
open Go Go.RowKit Go.Proofs
set_option maxRecDepth 100000
set_option maxHeartbeats 40000000
instance yJ4_1 (k m : Nat) : Decidable (SzB k m) := inferInstanceAs (Decidable (_ ≤ _))
instance yJ4_2 (k : Nat) (x : GI) : Decidable (SzI k x) := inferInstanceAs (Decidable (SzB _ _))
instance yJ4_3 (k : Nat) (x : GQ) : Decidable (SzQ k x) := inferInstanceAs (Decidable (_ ∧ _))
instance yJ4_4 (k : Nat) (x : GR) : Decidable (SzR k x) := inferInstanceAs (Decidable (_ ∧ _))
instance yJ4_5 (k : Nat) (x : Iv) : Decidable (SzV k x) := inferInstanceAs (Decidable (_ ∧ _))
instance yJ4_6 (k : Nat) (x : Ln) : Decidable (SzN k x) := inferInstanceAs (Decidable (_ ∧ _))
instance yJ4_7 (k : Nat) (x : U Ln) : Decidable (gC k x) := inferInstanceAs (Decidable (_ ∧ _))
instance yJ4_8 (k : Nat) (x : Pnt) : Decidable (SzPt k x) := inferInstanceAs (Decidable (_ ∧ _))
instance yJ4_9 (k : Nat) (x : Smp) : Decidable (SzSm k x) := inferInstanceAs (Decidable (_ ∧ _))
instance yJ4_10 (x : GQ) : Decidable (Sm x) := inferInstanceAs (Decidable True)
instance yJ4_11 (x : GR) : Decidable (FlO x) := inferInstanceAs (Decidable (_ ∧ _))
def rr (n : Int) : GR := ⟨ak n, oQ, false⟩
def exU : List (U Ln) := [⟨⟨rr 0, rr 2, false, false⟩, ⟨ak 0, ak 2, ak 0, ak 0⟩⟩, ⟨⟨rr 2, rr 4, true, false⟩, ⟨ak 4, ak 0, ak (-6), ak 3⟩⟩]
theorem exN_is : aP (frP exampleS 2) = (exU, 0) := by decide +kernel
theorem exS_no : (List.range 3).all (fun i => !badS (gt exampleS i) && !pn exampleS i) = true := by decide +kernel
theorem exS_is : frS exampleS (exU, 0) = (exU, 0) := by
 have h : ∀ i, i < 3 → badS (gt exampleS i) = false ∧ pn exampleS i = false := fun i hi => by
  have := List.all_eq_true.mp exS_no i (List.mem_range.mpr hi)
  simpa using this
 have hl : exampleS.length = 3 := rfl
 unfold frS
 rw [if_neg (by omega), if_neg (fun ⟨i, h1, h2⟩ => by rw [(h i (by omega)).1] at h2; cases h2), if_neg (fun ⟨i, h1, h2⟩ => by rw [(h i (by omega)).2] at h2; cases h2), if_neg (by omega)]
theorem exI_is : di exU true = [aM 2] := by decide +kernel
theorem exB_is : boxOf exU = ⟨0, 4, 0, 6, 0, 4⟩ := by decide +kernel
theorem exZ : ∀ x ∈ exU, gC 30 x := by decide +kernel
theorem exP_z : ∀ x ∈ frP exampleS 2, gC 30 x := by decide +kernel
theorem exS_z : ∀ x ∈ exampleS, SzSm 40 x := by decide +kernel
theorem exX : (∀ x ∈ bX exU 4, SzR 36 x) ∧ FlO (l6 (bX exU 4) 3) ∧ FlO (ee (ki (bX exU 4) 3)) ∧ (e6 (ki (bX exU 4) 3)).mag ≤ 1099511627776 := by decide +kernel
theorem exY : (∀ x ∈ bY exU 4, SzR 36 x) ∧ FlO (l6 (bY exU 4) 3) ∧ FlO (ee (ki (bY exU 4) 3)) ∧ (e6 (ki (bY exU 4) 3)).mag ≤ 1099511627776 := by decide +kernel
theorem exT : (∀ x ∈ bT exU 4, SzR 36 x) ∧ FlO (l6 (bT exU 4) 3) ∧ FlO (ee (ki (bT exU 4) 3)) ∧ (e6 (ki (bT exU 4) 3)).mag ≤ 1099511627776 := by decide +kernel
theorem exE : ∀ x ∈ exU, (SzR 30 x.iv.lo ∧ Sm x.iv.lo.r) ∧ (SzR 30 x.iv.hi ∧ Sm x.iv.hi.r) := by decide +kernel
theorem oB : SzR 36 default ∧ SzR 30 default ∧ Sm (default : GR).r ∧ SzN 30 default ∧ SzSm 40 default := by decide +kernel
end Go.Sx
namespace Go.Sx
open Go Go.RowKit Go.Proofs
set_option maxRecDepth 100000
set_option maxHeartbeats 40000000
attribute [local irreducible] Code.wp wpList Rd Step ObS Ent
attribute [local irreducible] ao aM ak ar aA bD
attribute [local irreducible] aI aN aj au aR ah aU
theorem BxO.of {L : List GR} (h : (∀ x ∈ L, SzR 36 x) ∧ FlO (l6 L (L.length - 1)) ∧ FlO (ee (ki L (L.length - 1))) ∧ (e6 (ki L (L.length - 1))).mag ≤ 1099511627776) : BxO L := ⟨fun i => All.gt h.1 oB.1, h.2.1, h.2.2.1, h.2.2.2⟩
theorem enR_ok (k : Nat) : SzR 30 (enR exU k) ∧ Sm (enR exU k).r := by
 have h : (SzR 30 (gt exU (k / 2)).iv.lo ∧ Sm (gt exU (k / 2)).iv.lo.r) ∧ (SzR 30 (gt exU (k / 2)).iv.hi ∧ Sm (gt exU (k / 2)).iv.hi.r) := All.gt (p := fun x : U Ln => (SzR 30 x.iv.lo ∧ Sm x.iv.lo.r) ∧ (SzR 30 x.iv.hi ∧ Sm x.iv.hi.r)) exE ⟨⟨oB.2.1, oB.2.2.1⟩, ⟨oB.2.1, oB.2.2.1⟩⟩
 unfold enR; cases k % 2 == 0
 · exact h.2
 · exact h.1
theorem eqi135 : EqIn Tryz.prog 2 135 vBx := eqS (c := cBx) (fun _ => rfl) Tryz.underlying135 Tryz.stoodInHeld135 fun d x y w hd => by
 refine Eq.trans (eqF (by decide) (dl aa3 rfl w) (dl aa3 rfl w) (rj Tryz.underlying3 d og _ _ w) (eqF (by decide) (dl aa3 rfl w) (dl aa3 rfl w) (rj Tryz.underlying3 d og _ _ w) (eqF (by decide) (dl aa3 rfl w) (dl aa3 rfl w) (rj Tryz.underlying3 d og _ _ w) (eqF (by decide) (dl aa3 rfl w) (dl aa3 rfl w) (rj Tryz.underlying3 d og _ _ w) (eqF (by decide) (dl aa3 rfl w) (dl aa3 rfl w) (rj Tryz.underlying3 d og _ _ w) (eqF (by decide) (dl aa3 rfl w) (dl aa3 rfl w) (rj Tryz.underlying3 d og _ _ w) eqF0)))))) ?_
 congr 1
 rw [decide_eq_decide]
 cases x; cases y; simp
theorem eqp135 : EqP Tryz.prog 135 vBx := EqIn.p (k := 2) rfl (c := fun x => (cBx x).toArray) (fun _ => rfl) Tryz.eqGuardType135 eqi135
instance yJ4_12 : Ep Tryz.prog 135 Bx inferInstance vBx := ⟨eqp135⟩
instance yJ4_13 (b d f : Int) : Bu Tryz.prog 135 [1, 3, 5] [.int .i64 b, .int .i64 d, .int .i64 f] (vBx ⟨0, b, 0, d, 0, f⟩) := Bu.of bld135 rfl rfl
theorem exm_last : ((0 : Int) == 0 && ((exU.length : Nat) : Int) == 2 && decide ((gt exU 1).f = ⟨ak 4, oQ, ak (-6), ak 3⟩) && (gt exU 1).iv.openLo && (([aM 2].length : Nat) : Int) == 1 && decide (gt [aM 2] 0 = aM 2) && (0 : Int) == 0 && decide ((⟨0, 4, 0, 6, 0, 4⟩ : Bx) = ⟨0, 4, 0, 6, 0, 4⟩)) = true := by decide +kernel
theorem qu (w0 : World) : Calls Tryz.prog 14 #[] w0 (cq w0 (.bool true) True) := by
 refine enter (N := 64) (args := []) Tryz.func14 rfl rfl ?_; intro ac h
 haveI : On := ⟨trivial⟩
 refine gz h <| (W) ?_; clear h ac; intro ac wo h
 refine js (xs := exampleS) h (dR Tryz.call83 rfl) (fun w_ hB_ hS_ => ri w_) rfl ?_; clear h ac wo; intro s1 ac wo _ h
 refine gz h <| (W) ?_; clear h ac wo; intro ac wo h
 have cS : ∀ lv w, View w lv exampleS → Calls Tryz.prog 16 #[lv] w (RetT w 88 exU [.int .i64 0] True) := fun lv w hv => by
  have := frS_ct exampleS lv (by decide) (fun i => All.gt exS_z oB.2.2.2.2) (exU, 0) _ (fun lv' w' hv' => by
   have h2 := l7 (frP exampleS 2) lv' (by decide) exP_z w' hv'
   rw [exN_is] at h2; exact h2) w hv
  rw [exS_is] at this; exact this
 refine pQ (xs := exU) h (dR Tryz.call16 rfl) (fun w_ hB_ hS_ => cS s1 w_ (row_view hS_ 0 rfl)) rfl ?_; clear h ac wo; intro s2 ac wo _ h
 refine gz h <| (W) ?_; clear h ac wo; intro ac wo h
 have cT : ∀ lv w, View w lv exU → Calls Tryz.prog 51 #[lv] w (RetR w 71 [aM 2] True) := fun lv w hv => by
  have := Turns_ct exU lv (by decide) (fun x hx => kd (exZ x hx) (by omega)) (fun i => All.gt (p := fun x : U Ln => SzR 30 x.iv.lo) (fun x hx => (exE x hx).1.1) oB.2.1) w hv
  rw [exI_is] at this; exact this
 refine js (xs := [aM 2]) h (dR Tryz.call51 rfl) (fun w_ hB_ hS_ => cT s2 w_ (row_view hS_ 0 rfl)) rfl ?_; clear h ac wo; intro s3 ac wo _ h
 have cB : ∀ lv w, View w lv exU → Calls Tryz.prog 84 #[lv] w (cq w (.tuple #[vBx ⟨0, 4, 0, 6, 0, 4⟩, .int .i64 0]) True) := fun lv w hv => by
  have := box_ct exU lv (by decide) (by decide) (fun i => All.gt (p := fun x : U Ln => SzN 30 x.f) (fun x hx => (exZ x hx).2) oB.2.2.2.1) enR_ok (BxO.of exX) (BxO.of exY) (BxO.of exT) w hv
  rw [exB_is] at this; exact this
 refine gz h <| (xc (ct := by exact fun w_ hB_ hS_ => cB s2 w_ (row_view hS_ 1 rfl))) <| (xa) fun b4 => (W) ?_; clear h ac wo; intro ac wo h
 have n4 := bP 4 30 og og
 have n6 := bP (-6) 30 og og
 have n3 := bP 3 30 og og
 have n2 := kT 2 30 og og
 replace h : St w0 64 [(1, s2), (2, .int .i64 0), (3, s3), (4, ptr b4 0), (5, .int .i64 0)] [.blk b4 (cBx ⟨0, 4, 0, 6, 0, 4⟩) 135, .row (α := GR) 71 s3 [aM 2], .row (α := U Ln) 88 s2 exU] ac wo := h.re [0, 1, 2]
 have z1 : gt exU 1 = ⟨⟨rr 2, rr 4, true, false⟩, ⟨ak 4, ak 0, ak (-6), ak 3⟩⟩ := rfl
 have nn2 : NN s2 2 := h.row_nn 2 rfl (by decide)
 have nn3 : NN s3 1 := h.row_nn 1 rfl (by decide)
 refine gz h <| (dr0 (hob := (oG (by exact fun hg => n4)) <| (oG (by exact fun hg => n6)) <| (oG (by exact fun hg => n3)) <| (oG (by exact fun hg => n2)) <| oE)) <| (W) ?_; clear h ac wo; intro ac wo h
 have e : ((0 : Int) == 0 && ((exU.length : Nat) : Int) == 2 && decide ((gt exU 1).f = ⟨ak 4, oQ, ak (-6), ak 3⟩) && (gt exU 1).iv.openLo && (([aM 2].length : Nat) : Int) == 1 && decide (gt [aM 2] 0 = aM 2) && (0 : Int) == 0 && decide ((⟨0, 4, 0, 6, 0, 4⟩ : Bx) = ⟨0, 4, 0, 6, 0, 4⟩)) = true := exm_last
 exact (rt h) (h.retP (congrArg Value.bool e) trivial)
end Go.Sx
namespace Go.Sx
open Go Go.RowKit Go.Proofs
set_option maxRecDepth 100000
set_option maxHeartbeats 40000000
attribute [local irreducible] Code.wp wpList Rd Step ObS Ent
theorem eqi88 : EqIn Tryz.prog 6 88 vUN := eqS (c := cUN) (fun _ => rfl) Tryz.underlying88 Tryz.stoodInHeld88 fun d x y w hd => by
 refine Eq.trans (eqF (by decide) (cg Tryz.isAgg86 Tryz.sizeOf86 (v := vV x.iv) rfl w) (cg Tryz.isAgg86 Tryz.sizeOf86 (v := vV y.iv) rfl w) (eqi86 d _ _ w og) (eqF (by decide) (cg Tryz.isAgg79 Tryz.sizeOf79 (v := vN x.f) rfl w) (cg Tryz.isAgg79 Tryz.sizeOf79 (v := vN y.f) rfl w) (eqi79 d _ _ w og) eqF0)) ?_
 congr 1
 rw [decide_eq_decide]
 cases x; cases y; simp
theorem eqp88 : EqP Tryz.prog 88 vUN := EqIn.p (k := 6) rfl (c := fun x => (cUN x).toArray) (fun _ => rfl) Tryz.eqGuardType88 eqi88
instance yJ4_14 : Ep Tryz.prog 88 (U Ln) inferInstance vUN := ⟨eqp88⟩
end Go.Sx
namespace Go.Sx
open Go Go.RowKit Go.Proofs
set_option maxRecDepth 100000
set_option maxHeartbeats 40000000
attribute [local irreducible] Code.wp wpList Rd Step ObS Ent
attribute [local irreducible] ao aM ak ar aA bD ay
attribute [local irreducible] aI aN aj au aR ah aU
def cSq (s : Stq) : List Value := [.int .u8 ((s.time : Nat) : Int), .int .u8 ((s.x : Nat) : Int), .int .u8 ((s.y : Nat) : Int), .int .u8 ((s.kind : Nat) : Int)]
def vSq (s : Stq) : Value := .agg (cSq s).toArray
instance yJ4_15 : Cod Stq := ⟨cSq, 4, fun _ => rfl, fun x => by simp [cSq, Value.oneCell'], by decide⟩
instance yJ4_16 (s : Stq) : Cel (vSq s) (cSq s) := ⟨rfl⟩
instance yJ4_17 (s : Stq) : Dc (cSq s) (vSq s) := ⟨rfl⟩
instance yJ4_18 : Sz Tryz.prog 93 4 := ⟨Tryz.sizeOf93⟩
instance yJ4_19 : Sz Tryz.prog 293 4 := ⟨Tryz.sizeOf293⟩
instance yJ4_20 : Sz Tryz.prog 91 1 := ⟨Tryz.sizeOf91⟩
instance yJ4_21 : Ag Tryz.prog 93 true := ⟨Tryz.isAgg93⟩
instance yJ4_22 : Ag Tryz.prog 293 true := ⟨Tryz.isAgg293⟩
instance yJ4_23 : Ag Tryz.prog 91 false := ⟨Tryz.isAgg91⟩
instance yJ4_24 : Un Tryz.prog 91 (.slice 293) := ⟨Tryz.runUnderlying91⟩
instance yJ4_25 : Fl Tryz.prog 93 0 5 0 := ⟨⟨_, _, uu93, rfl, rfl, rfl⟩⟩
instance yJ4_26 : Fl Tryz.prog 93 1 5 1 := ⟨⟨_, _, uu93, rfl, rfl, rfl⟩⟩
instance yJ4_27 : Fl Tryz.prog 93 2 5 2 := ⟨⟨_, _, uu93, rfl, rfl, rfl⟩⟩
instance yJ4_28 : Fl Tryz.prog 93 3 91 3 := ⟨⟨_, _, uu93, rfl, rfl, rfl⟩⟩
instance yJ4_29 : Fl Tryz.prog 293 0 5 0 := ⟨⟨_, _, uu293, rfl, rfl, rfl⟩⟩
instance yJ4_30 : Fl Tryz.prog 293 1 5 1 := ⟨⟨_, _, uu293, rfl, rfl, rfl⟩⟩
instance yJ4_31 : Fl Tryz.prog 293 2 5 2 := ⟨⟨_, _, uu293, rfl, rfl, rfl⟩⟩
instance yJ4_32 : Fl Tryz.prog 293 3 5 3 := ⟨⟨_, _, uu293, rfl, rfl, rfl⟩⟩
instance yJ4_33 : Zc Tryz.prog 293 (cSq ⟨0, 0, 0, 0⟩) := ⟨⟨_, Tryz.zeroValue293, rfl⟩⟩
instance yJ4_34 : Sh Tryz.prog 293 Stq vSq := ⟨trivial⟩
section
variable {P : Program} {w0 : World} {F : List (Nat × Value)} {t tt : TypeId} {x y : Operand}
end
end Go.Sx
namespace Go.Sx
open Go Go.RowKit Go.Proofs
set_option maxRecDepth 100000
set_option maxHeartbeats 40000000
attribute [local irreducible] Code.wp wpList Rd Step ObS Ent
attribute [local irreducible] ao aM ak ar aA bD ay
attribute [local irreducible] aI aN aj au aR ah aU dH ja bu aw
instance yJ4_35 : Sz Tryz.prog 94 2 := ⟨Tryz.sizeOf94⟩
instance yJ4_36 : Ag Tryz.prog 94 true := ⟨Tryz.isAgg94⟩
instance yJ4_37 : Un Tryz.prog 94 (.array 2 5) := ⟨Tryz.runUnderlying94⟩
section
variable [K : Key] [KeyZ] [KeyB]
omit [KeyZ] [KeyB] in
end
end Go.Sx
namespace Go.Sx
theorem gt_mem0 {α : Type} [Inhabited α] {l : List α} {i : Nat} (h : i < l.length) : gt l i ∈ l := by rw [fB h]; exact List.getElem_mem _
section
variable [K : Key]
end
end Go.Sx
namespace Go.Sx
open Go Go.RowKit Go.Proofs
set_option maxRecDepth 100000
set_option maxHeartbeats 40000000
attribute [local irreducible] Code.wp wpList Rd Step ObS Ent
attribute [local irreducible] ao aM ak ar aA bD ay aG
attribute [local irreducible] aI aN aj au aR ah aU dH ja bu aw
instance yJ4_38 : Sz Tryz.prog 232 32 := ⟨Tryz.sizeOf232⟩
instance yJ4_39 : Ag Tryz.prog 232 true := ⟨Tryz.isAgg232⟩
instance yJ4_40 : Un Tryz.prog 118 (.slice 232) := ⟨Tryz.runUnderlying118⟩
instance yJ4_41 : Fl Tryz.prog 232 0 86 0 := ⟨⟨_, _, uu232, rfl, rfl, rfl⟩⟩
instance yJ4_42 : Fl Tryz.prog 232 1 53 20 := ⟨⟨_, _, uu232, rfl, rfl, rfl⟩⟩
instance yJ4_43 : Cf Tryz.prog 237 := ⟨Tryz.call237⟩
instance yJ4_44 : Cf Tryz.prog 173 := ⟨Tryz.call173⟩
instance yJ4_45 : Cf Tryz.prog 174 := ⟨Tryz.call174⟩
end Go.Sx
namespace Go.Sx
open Go Go.RowKit Go.Proofs
set_option maxRecDepth 100000
set_option maxHeartbeats 40000000
attribute [local irreducible] Code.wp wpList Rd Step ObS Ent
attribute [local irreducible] ao aM ak ar aA bD ay aG
attribute [local irreducible] aI aN aj au aR ah aU dH ja bu aw cm
theorem nQ (w : World) : (method (Tryz.prog.types.size + Made.depth) 80 (.agg #[]) "Check").run Tryz.prog w = .ok (45, .agg #[]) w := iL (P := Tryz.prog) (T := 80) Tryz.type80 (by kernel_rfl) uu80 w
instance yJ4_46 : Mt Tryz.prog 80 (.agg #[]) "Check" 45 := ⟨nQ⟩
theorem mL (w : World) : (nilAhead (Tryz.prog.types.size + Made.depth) 80 (.agg #[]) "Check").run Tryz.prog w = .ok (some false) w := f8 (P := Tryz.prog) (T := 80) (f := 45) Tryz.type80 (by kernel_rfl) uu80 w
instance yJ4_47 : Nl Tryz.prog 80 (.agg #[]) "Check" := ⟨mL⟩
end Go.Sx
namespace Go.Sx
open Go Go.RowKit Go.Proofs
set_option maxRecDepth 100000
set_option maxHeartbeats 40000000
attribute [local irreducible] Code.wp wpList Rd Step ObS Ent
attribute [local irreducible] ao aM ak ar aA bD ay aG
attribute [local irreducible] aI aN aj au aR ah aU dH ja bu aw
instance yJ4_48 (a b c : GQ) : Bu Tryz.prog 53 [0, 1, 2] [vQ a, vQ b, vQ c] (vD ⟨a, b, c⟩) := Bu.of rA rfl rfl
end Go.Sx
namespace Go.Sx
open Go Go.RowKit Go.Proofs
set_option maxRecDepth 100000
set_option maxHeartbeats 40000000
attribute [local irreducible] Code.wp wpList Rd Step ObS Ent
attribute [local irreducible] ao aM ak ar aA bD ay aG
attribute [local irreducible] aI aN aj au aR ah aU dH ja bu aw
instance yJ4_49 : Cf Tryz.prog 163 := ⟨Tryz.call163⟩
instance yJ4_50 : Cf Tryz.prog 166 := ⟨Tryz.call166⟩
end Go.Sx
namespace Go.Sx
open Go Go.RowKit Go.Proofs
set_option maxRecDepth 100000
set_option maxHeartbeats 40000000
attribute [local irreducible] Code.wp wpList Rd Step ObS Ent
attribute [local irreducible] ao aM ak ar aA bD ay aG
structure XI where
  neg : Bool
  b : ByteArray
structure XQ where
  n : XI
  d : XI
def cXI (x : XI) : List Value := [.bool x.neg, .string x.b]
def vXI (x : XI) : Value := .agg (cXI x).toArray
def cXQ (x : XQ) : List Value := cXI x.n ++ cXI x.d
def vXQ (x : XQ) : Value := .agg (cXQ x).toArray
instance yJ4_51 (x : XI) : Cel (vXI x) (cXI x) := ⟨rfl⟩
instance yJ4_52 (x : XI) : Dc (cXI x) (vXI x) := ⟨rfl⟩
instance yJ4_53 (x : XQ) : Cel (vXQ x) (cXQ x) := ⟨rfl⟩
instance yJ4_54 (x : XQ) : Dc (cXQ x) (vXQ x) := ⟨rfl⟩
structure Bad (b : ByteArray) : Prop where
  pos : 0 < b.size
  z : (b[0]'pos).toNat = 0
section
variable {P : Program} {w0 : World} {F : List (Nat × Value)}
theorem r_eqlE {x y : Operand} {t tt : TypeId} {b : ByteArray} (hx : ev F x = some (.string b)) (hy : ev F y = some (.string ⟨#[]⟩)) (hb : Bad b) : Rd P w0 F [] (.binOp .eql t x y tt) (.bool false) := by
  have := r_eqlS (P := P) (w0 := w0) (t := t) (tt := tt) hx hy
  rwa [decide_eq_false (fun e => by have := hb.pos; rw [e] at this; exact absurd this (by decide))] at this
theorem r_neqE {x y : Operand} {t tt : TypeId} {b : ByteArray} (hx : ev F x = some (.string b)) (hy : ev F y = some (.string ⟨#[]⟩)) (hb : Bad b) : Rd P w0 F [] (.binOp .neq t x y tt) (.bool true) := by
  have := r_neqS (P := P) (w0 := w0) (t := t) (tt := tt) hx hy
  rwa [decide_eq_false (fun e => by have := hb.pos; rw [e] at this; exact absurd this (by decide))] at this
theorem r_indexE {x ix : Operand} {t : TypeId} {b : ByteArray} {k : IntKind} (hu : ∀ w, (underlying t).run P w = .ok .string w) (hx : ev F x = some (.string b)) (hi : ev F ix = some (.int k 0)) (hb : Bad b) : Rd P w0 F [] (.index t x ix) (.int .u8 0) := by
  have := kD (P := P) (w0 := w0) (i := 0) hu hx hi hb.pos
  rwa [hb.z] at this
end
theorem tN (x : XI) (hb : Bad x.b) (w0 : World) : Calls Tryz.prog 157 #[vXI x] w0 (cq w0 (.int .i64 5) True) := by
 refine enter (N := 21) (args := [vXI x]) Tryz.func157 rfl rfl ?_; intro ac h
 refine gz h <| (xb) fun b1 => (xo (hs := by exact r_eqlE rfl rfl hb)) <| (xg (hs := by exact fun hg => (Rd.of_nil (r_neqE (ec rfl hg) rfl hb)).step)) <| (xg (hs := by exact fun hg => (Rd.of_nil (r_indexE Tryz.runUnderlying9 (ec rfl hg) rfl hb)).step)) <| (ai) ?_ ?_ <;> clear h ac <;> intro ac wo h hc1
 · refine gz h <| (W) ?_; clear h ac wo; intro ac wo h
   exact (rt h) (h.retP rfl trivial)
 · exfalso; simp at hc1
section
theorem sh25X : Sh Tryz.prog 25 XI vXI := ⟨trivial⟩
attribute [local instance 2000] sh25X
theorem badN_ct (x : XQ) (hb : Bad x.n.b) (w0 : World) : Calls Tryz.prog 62 #[vXQ x] w0 (cq w0 (.int .i64 5) True) := by
 refine enter (N := 31) (args := [vXQ x]) Tryz.func62 rfl rfl ?_; intro ac h
 refine gz h <| (xb) fun b1 => (xk (tN x.n hb)) <| (xg (v := .int .i64 0) (hs := by exact fun hg => False.elim (Bool.noConfusion (show false = true from hg)))) <| (ai) ?_ ?_ <;> clear h ac <;> intro ac wo h hc1
 · refine gz h <| (W) ?_; clear h ac wo; intro ac wo h
   exact (rt h) (h.retP rfl trivial)
 · exfalso; simp at hc1
theorem badD_ct (a : GI) (za : SzI 16 a) (y : XI) (hb : Bad y.b) (w0 : World) : Calls Tryz.prog 62 #[vXQ ⟨⟨a.neg, bs a.mag⟩, y⟩] w0 (cq w0 (.int .i64 5) True) := by
 refine enter (N := 31) (args := [vXQ ⟨⟨a.neg, bs a.mag⟩, y⟩]) Tryz.func62 rfl rfl ?_; intro ac h
 have c1 : ∀ w0, Calls Tryz.prog 157 #[vXI ⟨a.neg, bs a.mag⟩] w0 (cq w0 (.int .i64 (cz a)) True) := fun w0 => fQ a za w0
 refine gz h <| (xb) fun b1 => (xk c1) <| (xg (hs := by exact fun hg => d6 enA (kk (tN y hb)))) <| (ai) ?_ ?_ <;> clear h ac <;> intro ac wo h hc1
 · refine gz h <| (W) ?_; clear h ac wo; intro ac wo h
   exact (rt h) (h.retP rfl trivial)
 · exfalso; simp at hc1
end
end Go.Sx
namespace Go.Sx
open Go Go.RowKit Go.Proofs
theorem mH : ∀ {l : List UInt8} {c : UInt8}, c ≠ 0 → 0 < nI (l ++ [c])
  | [], c, h => by
    have h2 : c.toNat ≠ 0 := fun e => h (by rw [← UInt8.ofNat_toNat (x := c), e]; rfl)
    show 0 < c.toNat + 256 * nI []
    omega
  | b :: l, c, h => by
    have := mH (l := l) h
    show 0 < b.toNat + 256 * nI (l ++ [c])
    omega
theorem sP : ∀ (l : List UInt8) (c : UInt8), c ≠ 0 → le (nI (l ++ [c])) = l ++ [c]
  | [], c, h => by
    have h0 := mH (l := []) h
    have h2 := c.toNat_lt
    have e : nI ([] ++ [c]) = c.toNat := by show c.toNat + 256 * 0 = _; omega
    rw [e] at h0 ⊢
    rw [iu h0, Nat.mod_eq_of_lt h2, Nat.div_eq_of_lt h2, k6, UInt8.ofNat_toNat]; rfl
  | b :: l, c, h => by
    have h0 := mH (l := b :: l) h
    have h2 := b.toNat_lt
    have e : nI ((b :: l) ++ [c]) = b.toNat + 256 * nI (l ++ [c]) := rfl
    rw [iu h0, e]
    rw [show (b.toNat + 256 * nI (l ++ [c])) % 256 = b.toNat by omega, show (b.toNat + 256 * nI (l ++ [c])) / 256 = nI (l ++ [c]) by omega, sP l c h, UInt8.ofNat_toNat]; rfl
theorem qI (b : ByteArray) : (∃ m, b = bs m) ∨ Bad b := by
  obtain ⟨⟨l⟩⟩ := b
  match l with
  | [] => exact .inl ⟨0, rfl⟩
  | c :: r =>
    by_cases h : c = 0
    · refine .inr ⟨by show 0 < (c :: r).toArray.size; simp, ?_⟩
      show c.toNat = 0
      rw [h]; rfl
    · refine .inl ⟨nI (r.reverse ++ [c]), ?_⟩
      unfold bs
      rw [sP _ _ h]
      simp
def qX (a : GQ) : XQ := ⟨⟨a.num.neg, bs a.num.mag⟩, ⟨a.den.neg, bs a.den.mag⟩⟩
theorem xq_cases (x : XQ) (hs : x.n.b.size * 2 ^ 16 ≤ 70368744177664) : (∃ a : GQ, x = qX a) ∨ ∀ w0, Calls Tryz.prog 62 #[vXQ x] w0 (cq w0 (.int .i64 5) True) := by
  obtain ⟨⟨s, b⟩, ⟨t, d⟩⟩ := x
  rcases qI b with ⟨m, rfl⟩ | hb
  · rcases qI d with ⟨k, rfl⟩ | hd
    · exact .inl ⟨⟨⟨s, m⟩, ⟨t, k⟩⟩, rfl⟩
    · refine .inr fun w0 => badD_ct ⟨s, m⟩ ?_ ⟨t, d⟩ hd w0
      unfold SzI SzB
      rw [← dE]
      exact hs
  · exact .inr fun w0 => badN_ct ⟨⟨s, b⟩, ⟨t, d⟩⟩ hb w0
end Go.Sx
namespace Go.Sx
theorem k8 {a : GI} (h : cz a = 0) : IOk a := by
  intro e
  cases hn : a.neg with
  | false => rfl
  | true =>
    exfalso
    unfold cz at h
    rw [decide_eq_true e, hn] at h
    have h5 : (5 : Int) = 0 := h
    exact absurd h5 (by decide)
theorem pg {a : GQ} (h : bW a = 0) : QOk a := by
  unfold bW at h
  have h1 : cz a.num = 0 := Classical.byContradiction fun hn => by
    rw [show (cz a.num != 0) = true from bne_iff_ne.2 hn, Bool.true_or, cond_true] at h
    exact absurd h (by decide)
  have h2 : cz a.den = 0 := Classical.byContradiction fun hn => by
    rw [show (cz a.den != 0) = true from bne_iff_ne.2 hn, Bool.or_true, cond_true] at h
    exact absurd h (by decide)
  rw [h1, h2, show (((0 : Int) != 0) || ((0 : Int) != 0)) = false from rfl, cond_false] at h
  have i1 := k8 h1
  have i2 := k8 h2
  by_cases e : a.den = z0
  · exact ⟨i1, .inl e, by unfold jl; rw [if_pos e]; exact Nat.coprime_one_right _⟩
  · rw [decide_eq_false (show ¬ a.den = (⟨false, 0⟩ : GI) from e), cond_false] at h
    cases hc : decide (ce a.den rational_one ≤ 0) with
    | true => rw [hc, Bool.true_or, cond_true] at h; have h5 : (5 : Int) = 0 := h; exact absurd h5 (by decide)
    | false =>
      cases hg : decide (aS a.num a.den = rational_one) with
      | false => rw [hc, hg] at h; have h5 : (5 : Int) = 0 := h; exact absurd h5 (by decide)
      | true =>
        have g1 := of_decide_eq_false hc
        have g2 := of_decide_eq_true hg
        rw [lA (b := rational_one) i2 (mn 1), pi] at g1
        have hv : 1 < eA a.den := by
          unfold icmp at g1
          split at g1
          · omega
          · split at g1
            · omega
            · omega
        have hd : a.den.neg = false ∧ 1 < a.den.mag := by
          unfold eA at hv
          cases hn : a.den.neg with
          | false => rw [hn] at hv; exact ⟨rfl, by have : (1 : Int) < (a.den.mag : Int) := hv; omega⟩
          | true => rw [hn] at hv; exfalso; have : (1 : Int) < -(a.den.mag : Int) := hv; omega
        refine ⟨i1, .inr hd, ?_⟩
        unfold jl
        rw [if_neg e]
        have k := congrArg eA g2
        rw [pi] at k
        unfold aS at k
        have k2 : ((Nat.gcd a.num.mag a.den.mag : Nat) : Int) = 1 := k
        exact (by exact_mod_cast k2 : Nat.gcd a.num.mag a.den.mag = 1)
end Go.Sx
namespace Go.Sx
section
variable {α : Type} [Inhabited α]
def mV (σ : GR → GR) (i : Iv) : Iv := ⟨σ i.lo, σ i.hi, i.openLo, i.openHi⟩
def mU (σ : GR → GR) (φ : α → α) (x : U α) : U α := ⟨mV σ x.iv, φ x.f⟩
def Pu (P : GR → Prop) (D : α → Prop) (x : U α) : Prop := (P x.iv.lo ∧ P x.iv.hi) ∧ D x.f
theorem jM {β γ : Type} [Inhabited β] [Inhabited γ] (m : β → γ) {L : List β} {x : Nat} (h : x < L.length) : gt (L.map m) x = m (gt L x) := by
  rw [fB h, fB (by rw [List.length_map]; exact h), List.getElem_map]
structure Mv (P : GR → Prop) (D : α → Prop) (eqf : α → α → Bool) (same : α → α → GR → Bool) (red : α → GR → α) (σ : GR → GR) (φ : α → α) : Prop where
  inj : ∀ a b, P a → P b → (σ a = σ b ↔ a = b)
  sm : ∀ f g t, D f → D g → P t → same (φ f) (φ g) (σ t) = same f g t
  rd : ∀ f t, D f → P t → red (φ f) (σ t) = φ (red f t)
  rD : ∀ f t, D f → P t → D (red f t)
  eq : ∀ f g, D f → D g → eqf (φ f) (φ g) = eqf f g
variable {P : GR → Prop} {D : α → Prop} {eqf : α → α → Bool} {same : α → α → GR → Bool} {red : α → GR → α} {σ : GR → GR} {φ : α → α}
omit [Inhabited α] in
theorem Mv.dec (M : Mv P D eqf same red σ φ) {a b : GR} (ha : P a) (hb : P b) : decide (σ a = σ b) = decide (a = b) := decide_eq_decide.2 (M.inj a b ha hb)
omit [Inhabited α] in
theorem Mv.inst (M : Mv P D eqf same red σ φ) {i : Iv} (h : P i.lo ∧ P i.hi) : aK (mV σ i) = aK i := by
  unfold aK; exact M.dec h.1 h.2
theorem mE {L : List (U α)} (hL : ∀ x ∈ L, Pu P D x) {x : Nat} (h : x < L.length) : Pu P D (gt L x) := hL _ (by rw [fB h]; exact List.getElem_mem _)
theorem Mv.held (M : Mv P D eqf same red σ φ) {out : List (U α)} (ho : ∀ x ∈ out, Pu P D x) {t : GR} (ht : P t) : gi (out.map (mU σ φ)) (σ t) = gi out t := by
  unfold gi
  rw [List.length_map]
  by_cases h : 0 < out.length
  · rw [jM _ (by omega)]
    show ((_ && decide (σ (gt out (out.length - 1)).iv.hi = σ t)) && _) = _
    rw [M.dec (mE ho (by omega)).1.2 ht]
    rfl
  · rw [decide_eq_false (by omega : ¬ ((out.length : Nat) : Int) > 0)]; rfl
theorem Mv.bef (M : Mv P D eqf same red σ φ) {L out : List (U α)} (hL : ∀ x ∈ L, Pu P D x) (ho : ∀ x ∈ out, Pu P D x) {x : Nat} (hx : x < L.length) : oO (L.map (mU σ φ)) (out.map (mU σ φ)) x = oO L out x := by
  unfold oO
  rw [List.length_map, jM _ hx]
  by_cases h : 0 < out.length
  · have hp := mE ho (by omega : out.length - 1 < out.length)
    rw [jM _ (by omega)]
    show ((_ && decide (σ (gt out (out.length - 1)).iv.hi = σ (gt L x).iv.lo)) && !(aK (mV σ (gt out (out.length - 1)).iv))) = _
    rw [M.dec hp.1.2 (mE hL hx).1.1, M.inst hp.1]
  · rw [decide_eq_false (by omega : ¬ ((out.length : Nat) : Int) > 0)]; rfl
omit [Inhabited α] in
theorem sg {out : List (U α)} (ho : ∀ x ∈ out, Pu P D x) {y : U α} (hy : Pu P D y) : ∀ x ∈ out ++ [y], Pu P D x := fun x hx => by
  rcases List.mem_append.1 hx with hx | hx
  · exact ho x hx
  · rw [List.mem_singleton.1 hx]; exact hy
omit [Inhabited α] in
theorem pu_set {out : List (U α)} (ho : ∀ x ∈ out, Pu P D x) {i : Nat} {y : U α} (hy : Pu P D y) : ∀ x ∈ out.set i y, Pu P D x := fun x hx => by
  rcases List.mem_or_eq_of_mem_set hx with hx | rfl
  · exact ho x hx
  · exact hy
theorem Mv.gap (M : Mv P D eqf same red σ φ) {L out : List (U α)} (hL : ∀ x ∈ L, Pu P D x) (ho : ∀ x ∈ out, Pu P D x) {x : Nat} (hx : x < L.length) :
    fL (L.map (mU σ φ)) (out.map (mU σ φ)) x = (fL L out x).map (mU σ φ) ∧ ∀ y ∈ fL L out x, Pu P D y := by
  have h1 := mE hL hx
  have h2 := mE hL (by omega : x - 1 < L.length)
  unfold fL
  rw [jM _ hx, jM _ (by omega : x - 1 < L.length)]
  have e : ((((decide (((x : Nat) : Int) > 0)) && (aK ((mU σ φ (gt L (x - 1))).iv))) && (decide (((mU σ φ (gt L (x - 1))).iv).lo = ((mU σ φ (gt L x)).iv).lo))) && (!(gi (out.map (mU σ φ)) (((mU σ φ (gt L x)).iv).lo))))
      = ((((decide (((x : Nat) : Int) > 0)) && (aK ((gt L (x - 1)).iv))) && (decide (((gt L (x - 1)).iv).lo = ((gt L x).iv).lo))) && (!(gi out (((gt L x).iv).lo)))) := by
    show ((((decide (((x : Nat) : Int) > 0)) && (aK (mV σ (gt L (x - 1)).iv))) && (decide (σ ((gt L (x - 1)).iv).lo = σ ((gt L x).iv).lo))) && (!(gi (out.map (mU σ φ)) (σ ((gt L x).iv).lo)))) = _
    rw [M.inst h2.1, M.dec h2.1.1 h1.1.1, M.held ho h1.1.1]
  rw [e]
  cases ((((decide (((x : Nat) : Int) > 0)) && (aK ((gt L (x - 1)).iv))) && (decide (((gt L (x - 1)).iv).lo = ((gt L x).iv).lo))) && (!(gi out (((gt L x).iv).lo))))
  · exact ⟨by rw [cond_false, cond_false, List.map_append]; rfl, by rw [cond_false]; exact sg ho h1⟩
  · exact ⟨by rw [cond_true, cond_true, List.map_append]; rfl, by rw [cond_true]; exact sg ho h1⟩
theorem Mv.pt (M : Mv P D eqf same red σ φ) {L out : List (U α)} (hL : ∀ x ∈ L, Pu P D x) (ho : ∀ x ∈ out, Pu P D x) {x : Nat} (hx : x < L.length) :
    iC same red (L.map (mU σ φ)) (out.map (mU σ φ)) x = (iC same red L out x).map (mU σ φ) ∧ ∀ y ∈ iC same red L out x, Pu P D y := by
  have h1 := mE hL hx
  unfold iC
  rw [jM _ hx, List.length_map]
  have e : (((decide (((x + 1 : Nat) : Int) < ((L.length : Nat) : Int))) && (decide (((gt (L.map (mU σ φ)) (x + 1)).iv).lo = ((mU σ φ (gt L x)).iv).lo))) && (same ((gt (L.map (mU σ φ)) (x + 1)).f) ((mU σ φ (gt L x)).f) (((mU σ φ (gt L x)).iv).lo)))
      = (((decide (((x + 1 : Nat) : Int) < ((L.length : Nat) : Int))) && (decide (((gt L (x + 1)).iv).lo = ((gt L x).iv).lo))) && (same ((gt L (x + 1)).f) ((gt L x).f) (((gt L x).iv).lo))) := by
    by_cases h : x + 1 < L.length
    · have h2 := mE hL h
      rw [jM _ h]
      show ((_ && (decide (σ ((gt L (x + 1)).iv).lo = σ ((gt L x).iv).lo))) && (same (φ (gt L (x + 1)).f) (φ (gt L x).f) (σ (gt L x).iv.lo))) = _
      rw [M.dec h2.1.1 h1.1.1, M.sm _ _ _ h2.2 h1.2 h1.1.1]
    · rw [decide_eq_false (by omega : ¬ ((x + 1 : Nat) : Int) < ((L.length : Nat) : Int))]; rfl
  rw [e]
  cases (((decide (((x + 1 : Nat) : Int) < ((L.length : Nat) : Int))) && (decide (((gt L (x + 1)).iv).lo = ((gt L x).iv).lo))) && (same ((gt L (x + 1)).f) ((gt L x).f) (((gt L x).iv).lo)))
  · refine ⟨?_, by rw [cond_false]; exact sg ho ⟨h1.1, M.rD _ _ h1.2 h1.1.1⟩⟩
    rw [cond_false, cond_false, List.map_append]
    show _ ++ [(⟨mV σ (gt L x).iv, red (φ (gt L x).f) (σ (gt L x).iv.lo)⟩ : U α)] = _
    rw [M.rd _ _ h1.2 h1.1.1]
    rfl
  · exact ⟨rfl, ho⟩
theorem Mv.step (M : Mv P D eqf same red σ φ) {L out : List (U α)} (hL : ∀ x ∈ L, Pu P D x) (ho : ∀ x ∈ out, Pu P D x) {x : Nat} (hx : x < L.length) :
    dI eqf same red (L.map (mU σ φ)) (out.map (mU σ φ)) x = (dI eqf same red L out x).map (mU σ φ) ∧ ∀ y ∈ dI eqf same red L out x, Pu P D y := by
  have h1 := mE hL hx
  obtain ⟨g1, g2⟩ := M.gap hL ho hx
  obtain ⟨p1, p2⟩ := M.pt hL ho hx
  unfold dI
  rw [M.bef hL ho hx, jM _ hx, g1, p1, List.length_map]
  have ei : aK (mU σ φ (gt L x)).iv = aK (gt L x).iv := M.inst h1.1
  rw [ei]
  cases hb : oO L out x with
  | false =>
    rw [cond_false, cond_false]
    cases (!(aK ((gt L x).iv)))
    · exact ⟨rfl, p2⟩
    · exact ⟨rfl, g2⟩
  | true =>
    obtain ⟨b1, _, _⟩ := f4.1 hb
    have ho1 := mE ho (by omega : out.length - 1 < out.length)
    rw [jM _ (by omega : out.length - 1 < out.length), cond_true, cond_true]
    cases (!(aK ((gt L x).iv)))
    · rw [cond_false, cond_false]
      show (bif (same (φ (gt out (out.length - 1)).f) (φ (gt L x).f) (σ (gt L x).iv.lo)) then _ else _) = _ ∧ _
      rw [M.sm _ _ _ ho1.2 h1.2 h1.1.1]
      cases same (gt out (out.length - 1)).f (gt L x).f (gt L x).iv.lo
      · exact ⟨rfl, p2⟩
      · refine ⟨?_, ?_⟩
        · rw [cond_true, cond_true, List.map_set]; rfl
        · rw [cond_true]; exact pu_set ho ho1
    · rw [cond_true, cond_true]
      show (bif ((!(gt out (out.length - 1)).iv.openHi) && (eqf (φ (gt out (out.length - 1)).f) (φ (gt L x).f))) then _ else _) = _ ∧ _
      rw [M.eq _ _ ho1.2 h1.2]
      cases ((!(gt out (out.length - 1)).iv.openHi) && (eqf (gt out (out.length - 1)).f (gt L x).f))
      · exact ⟨rfl, g2⟩
      · refine ⟨?_, ?_⟩
        · rw [cond_true, cond_true, List.map_set]; rfl
        · rw [cond_true]; exact pu_set ho ⟨⟨ho1.1.1, h1.1.2⟩, ho1.2⟩
omit [Inhabited α] in
theorem Mv.at1 (M : Mv P D eqf same red σ φ) {u : U α} (h : Pu P D u) : atU (mU σ φ u) = (atU u).map (mU σ φ) ∧ ∀ y ∈ atU u, Pu P D y := by
  unfold atU
  rw [show aK (mU σ φ u).iv = aK u.iv from M.inst h.1]
  have e1 : (mU σ φ u).iv.openLo = u.iv.openLo := rfl
  have e2 : (mU σ φ u).iv.openHi = u.iv.openHi := rfl
  rw [e1, e2]
  obtain ⟨⟨a, b⟩, c⟩ := h
  cases u.iv.openLo <;> cases aK u.iv <;> cases u.iv.openHi <;>
    exact ⟨rfl, fun y hy => by
      simp only [cond_true, cond_false, List.mem_append, List.mem_cons, List.not_mem_nil, or_false, false_or] at hy <;> first
        | (rcases hy with rfl | rfl | rfl <;> first | exact ⟨⟨a, a⟩, c⟩ | exact ⟨⟨b, b⟩, c⟩ | exact ⟨⟨a, b⟩, c⟩)
        | (rcases hy with rfl | rfl <;> first | exact ⟨⟨a, a⟩, c⟩ | exact ⟨⟨b, b⟩, c⟩ | exact ⟨⟨a, b⟩, c⟩)
        | (rcases hy with rfl <;> first | exact ⟨⟨a, a⟩, c⟩ | exact ⟨⟨b, b⟩, c⟩ | exact ⟨⟨a, b⟩, c⟩)⟩
omit [Inhabited α] in
theorem Mv.ats (M : Mv P D eqf same red σ φ) : ∀ {n : List (U α)}, (∀ x ∈ n, Pu P D x) → (n.map (mU σ φ)).flatMap atU = (n.flatMap atU).map (mU σ φ) ∧ ∀ y ∈ n.flatMap atU, Pu P D y
  | [], _ => ⟨rfl, fun _ h => by cases h⟩
  | u :: n, h => by
    obtain ⟨e1, e2⟩ := M.at1 (h u (List.mem_cons_self ..))
    obtain ⟨e3, e4⟩ := M.ats (n := n) fun x hx => h x (List.mem_cons_of_mem _ hx)
    refine ⟨?_, fun y hy => ?_⟩
    · rw [List.map_cons, List.flatMap_cons, List.flatMap_cons, List.map_append, e1, e3]
    · rw [List.flatMap_cons] at hy
      rcases List.mem_append.1 hy with hy | hy
      · exact e2 y hy
      · exact e4 y hy
end
section
variable {α β : Type} [Inhabited α] {c : α → α → Int} {c' : β → β → Int} {m : α → β} {S : α → Prop}
omit [Inhabited α] in
omit [Inhabited α] in
end
structure MvV (h : GQ) (p : Pnt) (f g : Ln) : Prop where
  ok : LOk g
  x0 : a6 g.x0 = a6 f.x0 - a6 h * a6 f.x1 + a6 p.x
  x1 : g.x1 = f.x1
  y0 : a6 g.y0 = a6 f.y0 - a6 h * a6 f.y1 + a6 p.y
  y1 : g.y1 = f.y1
theorem MvV.uniq {h : GQ} {p : Pnt} {f g k : Ln} (a : MvV h p f g) (b : MvV h p f k) : g = k :=
  Ln.ext4 (dK a.ok.1 b.ok.1 (by rw [a.x0, b.x0])) (a.x1.trans b.x1.symm) (dK a.ok.2.2.1 b.ok.2.2.1 (by rw [a.y0, b.y0])) (a.y1.trans b.y1.symm)
section
variable [K : Key]
end
end Go.Sx
namespace Go.Sx
open Go Go.RowKit Go.Proofs
set_option maxRecDepth 100000
set_option maxHeartbeats 40000000
attribute [local irreducible] Code.wp wpList Rd Step ObS Ent
attribute [local irreducible] ao aM ak ar aA bD ay aG
attribute [local irreducible] aI aN aj au aR ah aU dH ja bu aw
def xsz (x : XQ) : Nat := x.n.b.size + x.d.b.size
def Gd (x : XQ) : Prop := ∃ a : GQ, x = qX a ∧ QOk a ∧ a.num.mag < 2 ^ 64 ∧ a.den.mag < 2 ^ 64
theorem ll (x : XQ) (hs : xsz x ≤ 8) : ∃ e : Int, (∀ w0, Calls Tryz.prog 62 #[vXQ x] w0 (cq w0 (.int .i64 e) True)) ∧ (e = 0 → Gd x) := by
 unfold xsz at hs
 rcases xq_cases x (by have : x.n.b.size ≤ 8 := by omega
                       exact Nat.le_trans (Nat.mul_le_mul_right _ this) (by decide)) with ⟨a, rfl⟩ | h
 · have h1 : (le a.num.mag).length ≤ 8 := by rw [← dE]; have : (bs a.num.mag).size + (bs a.den.mag).size ≤ 8 := hs; omega
   have h2 : (le a.den.mag).length ≤ 8 := by rw [← dE]; have : (bs a.num.mag).size + (bs a.den.mag).size ≤ 8 := hs; omega
   have za : SzQ 16 a := ⟨Nat.le_trans (Nat.mul_le_mul_right _ h1) (by decide), Nat.le_trans (Nat.mul_le_mul_right _ h2) (by decide)⟩
   exact ⟨bW a, fun w0 => dM a za w0, fun e => ⟨a, rfl, pg e, (bR 8 _).1 h1, (bR 8 _).1 h2⟩⟩
 · exact ⟨5, h, fun e => absurd e (by decide)⟩
theorem qT : Sh Tryz.prog 27 XQ vXQ := ⟨trivial⟩
theorem qU : Sh Tryz.prog 25 XI vXI := ⟨trivial⟩
section
attribute [local instance 2000] qT qU
end
end Go.Sx
namespace Go.Sx
open Go Go.RowKit Go.Proofs
set_option maxRecDepth 100000
set_option maxHeartbeats 40000000
attribute [local irreducible] Code.wp wpList Rd Step ObS Ent
attribute [local irreducible] ao aM ak ar aA bD ay aG
attribute [local irreducible] aI aN aj au aR ah aU dH ja bu aw
def Gq (a : GQ) : Prop := QOk a ∧ a.num.mag < 2 ^ 64 ∧ a.den.mag < 2 ^ 64
theorem gq_bq {a : GQ} (k : Gq a) : Bq 64 a := Bq.self k.1 k.2.1 (by
 unfold jl
 by_cases e : a.den = z0
 · rw [if_pos e]; decide
 · rw [if_neg e]; exact k.2.2)
theorem bld29' : Bu Tryz.prog 29 [] [] (vPt ⟨oQ, oQ⟩) := Bu.of bld29 rfl rfl
theorem bld27' : Bu Tryz.prog 27 [] [] (vQ oQ) := Bu.of kx rfl rfl
attribute [local instance] bld29' bld27'
end Go.Sx
namespace Go.Sx
open Go Go.RowKit Go.Proofs Go.ChangeShapes Go.WideShapes
set_option maxRecDepth 100000
section
variable {H : Type} {enc : TypeId × Value → H} {W : World} {base : Nat} {sp : Nat → Bool} {held : Bool}
def dXI (x : XI) : DataW H := .agg [.lit (.bool x.neg), .lit (.string x.b.data.toList)]
def dXQ (x : XQ) : DataW H := .agg [dXI x.n, dXI x.d]
theorem p0 {fuel : Nat} {cs : List Value} {x : DataW H × List MemPlace} (h : DataW.trod enc Tryz.prog W base sp held fuel 25 cs = some x) : ∃ i : XI, cs = cXI i ∧ x.1 = dXI i := by
  obtain ⟨xs, n, _, hx, hlen, hxl, hf⟩ := DataW.trod_struct nn25 h
  rw [show Tryz.prog.cellsOf 25 = 2 by kernel_rfl] at hlen
  obtain ⟨c0, c1, rfl⟩ : ∃ c0 c1, cs = [c0, c1] := by
    match cs, hlen with
    | [c0, c1], _ => exact ⟨_, _, rfl⟩
  have k4 : Tryz.prog.cellsOf 4 = 1 := by kernel_rfl
  have k9 : Tryz.prog.cellsOf 9 = 1 := by kernel_rfl
  have f0 : DataW.trod enc Tryz.prog W base sp held n 4 (([c0, c1].drop 0).take (Tryz.prog.cellsOf 4)) = xs[0]? := hf 0 _ rfl
  have f1 : DataW.trod enc Tryz.prog W base sp held n 9 (([c0, c1].drop 1).take (Tryz.prog.cellsOf 9)) = xs[1]? := hf 1 _ rfl
  rw [k4] at f0
  rw [k9] at f1
  obtain ⟨y0, y1, rfl⟩ : ∃ y0 y1, xs = [y0, y1] := by
    have : xs.length = 2 := hxl
    match xs, this with
    | [y0, y1], _ => exact ⟨_, _, rfl⟩
  obtain ⟨b, e0, d0⟩ := DataW.trod_bool Tryz.underlying4 f0
  obtain ⟨s, e1, d1, _⟩ := DataW.trod_string Tryz.underlying9 f1
  simp at e0 e1
  subst e0 e1
  refine ⟨⟨b, s⟩, rfl, ?_⟩
  rw [hx, d0, d1]; rfl
theorem iZ {fuel : Nat} {cs : List Value} {x : DataW H × List MemPlace} (h : DataW.trod enc Tryz.prog W base sp held fuel 27 cs = some x) : ∃ i : XQ, cs = cXQ i ∧ x.1 = dXQ i := by
  obtain ⟨xs, n, _, hx, hlen, hxl, hf⟩ := DataW.trod_struct nn27 h
  rw [show Tryz.prog.cellsOf 27 = 4 by kernel_rfl] at hlen
  have k25 : Tryz.prog.cellsOf 25 = 2 := by kernel_rfl
  have f0 : DataW.trod enc Tryz.prog W base sp held n 25 ((cs.drop 0).take (Tryz.prog.cellsOf 25)) = xs[0]? := hf 0 _ rfl
  have f1 : DataW.trod enc Tryz.prog W base sp held n 25 ((cs.drop 2).take (Tryz.prog.cellsOf 25)) = xs[1]? := hf 1 _ rfl
  rw [k25] at f0 f1
  obtain ⟨y0, y1, rfl⟩ : ∃ y0 y1, xs = [y0, y1] := by
    have : xs.length = 2 := hxl
    match xs, this with
    | [y0, y1], _ => exact ⟨_, _, rfl⟩
  obtain ⟨i, e0, d0⟩ := p0 f0
  obtain ⟨j, e1, d1⟩ := p0 f1
  refine ⟨⟨i, j⟩, ?_, ?_⟩
  · show cs = cXI i ++ cXI j
    rw [← e0, ← e1]
    match cs, hlen with
    | [a, b, c, d], _ => rfl
  · rw [hx]
    show DataW.agg [y0.1, y1.1] = DataW.agg [dXI i, dXI j]
    rw [d0, d1]
theorem w_xq (x : XQ) : DataW.weights Tryz.prog 27 (dXQ (H := H) x) = [x.n.b.data.toList.length, x.d.b.data.toList.length] := by
  unfold dXQ dXI
  simp [DataW.weights, DataW.weightsEach, nn27, nn25]
end
end Go.Sx
namespace Go.Sx
open Go Go.RowKit Go.Proofs
set_option maxRecDepth 100000
set_option maxHeartbeats 40000000
attribute [local irreducible] Code.wp wpList Rd Step ObS Ent
attribute [local irreducible] ao aM ak ar aA bD ay
attribute [local irreducible] aI aN aj au aR ah aU dH ja
def plAdd (p q : Pnt) : Pnt := ⟨au p.x q.x, au p.y q.y⟩
def plSub (p q : Pnt) : Pnt := ⟨ah p.x q.x, ah p.y q.y⟩
def so (p : Pnt) (r : GQ) : Pnt := ⟨aj p.x r, aj p.y r⟩
def fG (a b : Pnt) (r : GQ) : Pnt := plAdd a (so (plSub b a) r)
instance yJ4_55 : Cf Tryz.prog 104 := ⟨Tryz.call104⟩
instance yJ4_56 : Cf Tryz.prog 105 := ⟨Tryz.call105⟩
instance yJ4_57 : Cf Tryz.prog 106 := ⟨Tryz.call106⟩
instance yJ4_58 : Sz Tryz.prog 47 16 := ⟨Tryz.sizeOf47⟩
instance yJ4_59 : Ag Tryz.prog 47 true := ⟨Tryz.isAgg47⟩
instance yJ4_60 : Fl Tryz.prog 47 0 29 0 := ⟨⟨_, _, uu47, rfl, rfl, rfl⟩⟩
instance yJ4_61 : Fl Tryz.prog 47 1 29 8 := ⟨⟨_, _, uu47, rfl, rfl, rfl⟩⟩
end Go.Sx
namespace Go.Sx
open Go Go.RowKit Go.Proofs
set_option maxRecDepth 100000
set_option maxHeartbeats 40000000
attribute [local irreducible] Code.wp wpList Rd Step ObS Ent
attribute [local irreducible] ao aM ak ar aA bD
def en (u : U Ln) (t : GR) : Int :=
 (ao u.iv.hi t)
attribute [irreducible] en
def ry (x : List (U Ln)) (target : GR) (i : Nat) (j : Nat) : Int × Bool :=
 (((i : Nat) : Int), ((decide (((i : Nat) : Int) < ((x.length : Nat) : Int))) && ((en (gt x i) target) == 0)))
def eF (x : List (U Ln)) (target : GR) (i : Nat) (j : Nat) : Nx (Nat × Nat) (Int × Bool) :=
 bif (decide (((i : Nat) : Int) < ((j : Nat) : Int))) then
  bif (decide ((en (gt x ((i + j) / 2)) target) < 0)) then
   .go ((((i + j) / 2) + 1), j)
  else
   .go (i, ((i + j) / 2))
 else
  .out (i, j)
def ln (x : List (U Ln)) (target : GR) : Int × Bool :=
 fin (de (fun s => eF x target s.1 s.2) (x.length - 0 + 1) (0, x.length)) (fun s => ry x target s.1 s.2) (fun r => r)
attribute [irreducible] ln
def j3 (l : List (U Ln)) (t : GR) (i : Nat) (mb2 : Ln) : Ln × Bool :=
 ((⟨(⟨(⟨false, 0⟩ : GI), (⟨false, 0⟩ : GI)⟩ : GQ), (⟨(⟨false, 0⟩ : GI), (⟨false, 0⟩ : GI)⟩ : GQ), (⟨(⟨false, 0⟩ : GI), (⟨false, 0⟩ : GI)⟩ : GQ), (⟨(⟨false, 0⟩ : GI), (⟨false, 0⟩ : GI)⟩ : GQ)⟩ : Ln), false)
def dN (l : List (U Ln)) (t : GR) (i : Nat) (mb2 : Ln) : Nx (Nat × Ln) (Ln × Bool) :=
 bif (decide (((i : Nat) : Int) < ((l.length : Nat) : Int))) then
  bif (decide ((ao (((gt l i).iv).lo) t) > 0)) then
   .out (i, mb2)
  else
   bif (((decide ((ao (((gt l i).iv).lo) t) < 0)) || (!((gt l i).iv).openLo)) && ((!(decide (((gt l i).iv).hi = t))) || (!((gt l i).iv).openHi))) then
    .ret ((gt l i).f, true)
   else
    .go ((i + 1), mb2)
 else
  .out (i, mb2)
def dX (l : List (U Ln)) (t : GR) : Ln × Bool :=
 fin (de (fun s => dN l t s.1 s.2) ((l.length - (((ln l t).1).toNat)) + 1) (((ln l t).1).toNat, (⟨(⟨(⟨false, 0⟩ : GI), (⟨false, 0⟩ : GI)⟩ : GQ), (⟨(⟨false, 0⟩ : GI), (⟨false, 0⟩ : GI)⟩ : GQ), (⟨(⟨false, 0⟩ : GI), (⟨false, 0⟩ : GI)⟩ : GQ), (⟨(⟨false, 0⟩ : GI), (⟨false, 0⟩ : GI)⟩ : GQ)⟩ : Ln))) (fun s => j3 l t s.1 s.2) (fun r => r)
attribute [irreducible] dX
end Go.Sx
namespace Go.Sx
open Go Go.RowKit Go.Proofs
set_option maxRecDepth 100000
set_option maxHeartbeats 40000000
attribute [local irreducible] Code.wp wpList Rd Step ObS Ent
attribute [local irreducible] ao aM ak ar aA bD ay
attribute [local irreducible] aI aN aj au aR ah aU dH ja
def atRat (l : List (U Ln)) (t : GQ) : Pnt × Bool :=
 bif (dX l (ay t)).2 then (⟨aI (lxs (dX l (ay t)).1) t, aI (lys (dX l (ay t)).1) t⟩, true) else (⟨oQ, oQ⟩, false)
theorem bld29z : Bu Tryz.prog 29 [] [] (vPt ⟨oQ, oQ⟩) := Bu.of bld29 rfl rfl
attribute [local instance] bld29z
end Go.Sx
namespace Go.Sx
theorem scanL {T R : Type} {B : T → Nx T R} (st : Nat → T) {n : Nat} {brk hit : Nat → Bool} {r : Nat → R} {o : Nat → T}
    (h : ∀ i, i < n → B (st i) = bif brk i then .out (o i) else bif hit i then .ret (r i) else .go (st (i + 1))) (ho : B (st n) = .out (o n)) :
    ∀ k a, a ≤ n → n - a < k → ∃ b, a ≤ b ∧ b ≤ n ∧ (∀ j, a ≤ j → j < b → brk j = false ∧ hit j = false) ∧ ((b < n ∧ brk b = false ∧ hit b = true ∧ de B k (st a) = .inr (r b)) ∨ ((b = n ∨ (b < n ∧ brk b = true)) ∧ de B k (st a) = .inl (o b)))
  | k + 1, a, ha, hk => by
    by_cases e : a = n
    · subst e
      exact ⟨a, Nat.le_refl _, Nat.le_refl _, fun j h1 h2 => by omega, .inr ⟨.inl rfl, gV k ho⟩⟩
    · have h1 := h a (by omega)
      cases hb : brk a with
      | true =>
        rw [hb, cond_true] at h1
        exact ⟨a, Nat.le_refl _, by omega, fun j h1 h2 => by omega, .inr ⟨.inr ⟨by omega, hb⟩, gV k h1⟩⟩
      | false =>
        rw [hb, cond_false] at h1
        cases hh : hit a with
        | true =>
          rw [hh, cond_true] at h1
          exact ⟨a, Nat.le_refl _, by omega, fun j h1 h2 => by omega, .inl ⟨by omega, hb, hh, sO k h1⟩⟩
        | false =>
          rw [hh, cond_false] at h1
          obtain ⟨b, b1, b2, b3, b4⟩ := scanL st h ho k (a + 1) (by omega) (by omega)
          refine ⟨b, by omega, b2, fun j j1 j2 => ?_, ?_⟩
          · by_cases e2 : j = a
            · subst e2; exact ⟨hb, hh⟩
            · exact b3 j (by omega) j2
          · rw [i6 k h1]; exact b4
theorem gtmL {β : Type} [Inhabited β] {l : List β} {i : Nat} (h : i < l.length) : gt l i ∈ l := by rw [fB h]; exact List.getElem_mem _
theorem memL {β : Type} [Inhabited β] {l : List β} {x : β} (h : x ∈ l) : ∃ i, i < l.length ∧ gt l i = x := by
  obtain ⟨i, hi, e⟩ := List.getElem_of_mem h
  exact ⟨i, hi, by rw [fB hi]; exact e⟩
section
variable [K : Key]
theorem ni {N : List (U Ln)} (hw : ∀ u ∈ N, Tv u.iv) {t : GR} (ht : Tm t) (hm : ∀ p q, p < q → q < N.length → tk (gt N p).iv.hi ≤ tk (gt N q).iv.hi) :
    ∀ k i j, j - i < k → i ≤ j → j ≤ N.length → (∀ p, p < i → tk (gt N p).iv.hi < tk t) → (∀ p, j ≤ p → p < N.length → tk t ≤ tk (gt N p).iv.hi) →
      ∃ m, m ≤ N.length ∧ de (fun s => eF N t s.1 s.2) k (i, j) = .inl (m, m) ∧ (∀ p, p < m → tk (gt N p).iv.hi < tk t) ∧ (∀ p, m ≤ p → p < N.length → tk t ≤ tk (gt N p).iv.hi)
  | k + 1, i, j, hk, hij, hj, h1, h2 => by
    by_cases e : i < j
    · have hlt : (i + j) / 2 < N.length := by omega
      have hc : en (gt N ((i + j) / 2)) t = sgn (tk (gt N ((i + j) / 2)).iv.hi) (tk t) := by
        unfold en; exact (hw _ (gtmL hlt)).2.cmp ht
      by_cases hlt2 : tk (gt N ((i + j) / 2)).iv.hi < tk t
      · have hB : eF N t i j = .go (((i + j) / 2) + 1, j) := by
          unfold eF
          rw [decide_eq_true (by omega : ((i : Nat) : Int) < ((j : Nat) : Int)), hc, iF hlt2]; rfl
        rw [i6 (B := fun s => eF N t s.1 s.2) k hB]
        refine ni hw ht hm k _ _ (by omega) (by omega) hj (fun p hp => ?_) h2
        by_cases e2 : p = (i + j) / 2
        · rw [e2]; exact hlt2
        · have := hm p ((i + j) / 2) (by omega) hlt
          omega
      · have hB : eF N t i j = .go (i, (i + j) / 2) := by
          unfold eF
          rw [decide_eq_true (by omega : ((i : Nat) : Int) < ((j : Nat) : Int)), hc]
          have : decide (sgn (tk (gt N ((i + j) / 2)).iv.hi) (tk t) < 0) = false := by
            rcases Nat.lt_or_eq_of_le (Nat.le_of_not_lt hlt2) with h3 | h3
            · rw [jc h3]; rfl
            · rw [h3, fX]; rfl
          rw [this]; rfl
        rw [i6 (B := fun s => eF N t s.1 s.2) k hB]
        refine ni hw ht hm k _ _ (by omega) (by omega) (by omega) h1 (fun p hp hp2 => ?_)
        by_cases e2 : p = (i + j) / 2
        · rw [e2]; omega
        · have := hm ((i + j) / 2) p (by omega) hp2
          omega
    · have hB : eF N t i j = .out (i, j) := by
        unfold eF
        rw [decide_eq_false (by omega : ¬ ((i : Nat) : Int) < ((j : Nat) : Int))]; rfl
      have e3 : i = j := by omega
      subst e3
      exact ⟨i, hj, gV k hB, h1, h2⟩
theorem ordL {N : List (U Ln)} (ho : N.Pairwise fun a b => dS a.iv < (dZ b.iv : Int)) {p q : Nat} (h : p < q) (hq : q < N.length) : dS (gt N p).iv < (dZ (gt N q).iv : Int) := by
  have := List.pairwise_iff_getElem.1 ho p q (by omega) hq h
  rw [fB (by omega), fB hq]; exact this
theorem AtL_spec {N : List (U Ln)} (hw : ∀ u ∈ N, Wv u.iv) (ho : N.Pairwise fun a b => dS a.iv < (dZ b.iv : Int)) {t : GR} (ht : Tm t) :
    (∃ u ∈ N, inU u.iv (2 * tk t) ∧ dX N t = (u.f, true)) ∨ ((∀ u ∈ N, ¬ inU u.iv (2 * tk t)) ∧ (dX N t).2 = false) := by
  have par : ∀ i : Iv, (dZ i = 2 * tk i.lo ∧ i.openLo = false ∨ dZ i = 2 * tk i.lo + 1 ∧ i.openLo = true) ∧ (dS i = 2 * (tk i.hi : Int) ∧ i.openHi = false ∨ dS i = 2 * (tk i.hi : Int) - 1 ∧ i.openHi = true) := fun i => by
    rcases fC i with ⟨a1, a2⟩ | ⟨a1, a2⟩ <;> rcases jn i with ⟨b1, b2⟩ | ⟨b1, b2⟩ <;> simp [a1, a2, b1, b2]
  have hm : ∀ p q, p < q → q < N.length → tk (gt N p).iv.hi ≤ tk (gt N q).iv.hi := fun p q h hq => by
    have h1 := ordL ho h hq
    have h2 := (hw _ (gtmL hq)).le
    have := par (gt N p).iv
    have := par (gt N q).iv
    omega
  have hm2 : ∀ p q, p < q → q < N.length → tk (gt N p).iv.lo ≤ tk (gt N q).iv.lo := fun p q h hq => by
    have h1 := ordL ho h hq
    have h2 := (hw _ (gtmL (by omega : p < N.length))).le
    have := par (gt N p).iv
    have := par (gt N q).iv
    omega
  obtain ⟨m, hmn, hl, i1, i2⟩ := ni (fun u hu => (hw u hu).1) ht hm (N.length - 0 + 1) 0 N.length (by omega) (Nat.zero_le _) (Nat.le_refl _) (fun p hp => by omega) (fun p h1 h2 => by omega)
  have hbs : (ln N t).1 = (m : Int) := by
    unfold ln
    rw [pH hl]; rfl
  unfold dX
  rw [hbs, Int.toNat_natCast]
  generalize (⟨(⟨(⟨false, 0⟩ : GI), (⟨false, 0⟩ : GI)⟩ : GQ), (⟨(⟨false, 0⟩ : GI), (⟨false, 0⟩ : GI)⟩ : GQ), (⟨(⟨false, 0⟩ : GI), (⟨false, 0⟩ : GI)⟩ : GQ), (⟨(⟨false, 0⟩ : GI), (⟨false, 0⟩ : GI)⟩ : GQ)⟩ : Ln) = z
  obtain ⟨b, b1, b2, b3, b4⟩ := scanL (B := fun s => dN N t s.1 s.2) (fun i => (i, z)) (n := N.length) (brk := fun i => decide ((ao (((gt N i).iv).lo) t) > 0))
    (hit := fun i => ((decide ((ao (((gt N i).iv).lo) t) < 0)) || (!((gt N i).iv).openLo)) && ((!(decide (((gt N i).iv).hi = t))) || (!((gt N i).iv).openHi))) (r := fun i => ((gt N i).f, true)) (o := fun i => (i, z))
    (fun i hi => by
      show dN N t i z = _
      unfold dN
      rw [decide_eq_true (by omega : ((i : Nat) : Int) < ((N.length : Nat) : Int))]; rfl)
    (by
      show dN N t N.length z = _
      unfold dN
      rw [decide_eq_false (by omega : ¬ ((N.length : Nat) : Int) < ((N.length : Nat) : Int))]; rfl) (N.length - m + 1) m hmn (by omega)
  have hk : ∀ i, i < N.length → m ≤ i → decide ((ao (((gt N i).iv).lo) t) > 0) = false →
      ((((decide ((ao (((gt N i).iv).lo) t) < 0)) || (!((gt N i).iv).openLo)) && ((!(decide (((gt N i).iv).hi = t))) || (!((gt N i).iv).openHi))) = true ↔ inU (gt N i).iv (2 * tk t)) := fun i hi hmi hb => by
    have hv := (hw _ (gtmL hi)).1
    rw [hv.1.cmp ht] at hb ⊢
    have h2 := i2 i hmi hi
    have hp := par (gt N i).iv
    have he : decide ((gt N i).iv.hi = t) = decide (tk (gt N i).iv.hi = tk t) := decide_eq_decide.2 (hv.2.inj ht).symm
    rw [he]
    unfold inU
    rcases Nat.lt_trichotomy (tk (gt N i).iv.lo) (tk t) with h1 | h1 | h1
    · rw [iF h1]
      rcases hp with ⟨hp1 | hp1, hp2 | hp2⟩ <;> simp [hp1.1, hp1.2, hp2.1, hp2.2] <;> omega
    · rw [h1, fX]
      rcases hp with ⟨hp1 | hp1, hp2 | hp2⟩ <;> simp [hp1.1, hp1.2, hp2.1, hp2.2] <;> omega
    · rw [jc h1] at hb; cases hb
  rcases b4 with ⟨c1, c2, c3, c4⟩ | ⟨c1, c2⟩
  · exact .inl ⟨gt N b, gtmL c1, (hk b c1 b1 c2).1 c3, fin_r c4⟩
  · right
    refine ⟨fun u hu hi => ?_, by rw [pH c2]; rfl⟩
    obtain ⟨i, hi2, rfl⟩ := memL hu
    have hp := par (gt N i).iv
    have hi1 := hi.1
    have hi3 := hi.2
    by_cases e1 : i < m
    · have := i1 i e1
      omega
    · by_cases e2 : i < b
      · obtain ⟨d1, d2⟩ := b3 i (by omega) e2
        rw [(hk i hi2 (by omega) d1).2 hi] at d2; cases d2
      · rcases c1 with c1 | ⟨c1, c3⟩
        · omega
        · have hv := (hw _ (gtmL c1)).1
          rw [hv.1.cmp ht] at c3
          have h3 : tk t < tk (gt N b).iv.lo := by
            rcases Nat.lt_trichotomy (tk (gt N b).iv.lo) (tk t) with h1 | h1 | h1
            · rw [iF h1] at c3; cases c3
            · rw [h1, fX] at c3; cases c3
            · exact h1
          by_cases e3 : i = b
          · subst e3; omega
          · have := hm2 b i (by omega) hi2
            omega
end
end Go.Sx
namespace Go.Sx
class KeyR [K : Key] : Prop where
  r : ∀ t : GR, Tm t → ∃ q, Bq 200 q ∧ t = ay q
theorem Bq.div {m n : Nat} {a b q : GQ} (ha : Bq m a) (hb : Bq n b) (hq : QOk q) (h0 : a6 b ≠ 0) (e : a6 q = a6 a / a6 b) : Bq (m + n) q := by
  obtain ⟨oa, x, y, y0, y1, x1, f⟩ := ha
  obtain ⟨ob, z, w, w0, w1, z1, g⟩ := hb
  have hz : z ≠ 0 := fun h => h0 (by rw [g, h]; have := gj w0; push_cast; grind)
  have hN := Nat.pow_pos (n := n) (show 0 < 2 by decide)
  have hza : 0 < z.natAbs := Int.natAbs_pos.2 hz
  refine ⟨hq, x * w * z.sign, y * z.natAbs, Nat.mul_pos y0 hza, ?_, ?_, ?_⟩
  · rw [pw]; exact Nat.mul_lt_mul_of_lt_of_le y1 (Nat.le_of_lt z1) hN
  · rw [pw, Int.natAbs_mul, Int.natAbs_mul, Int.natAbs_sign_of_ne_zero hz, Nat.mul_one]
    exact Nat.mul_lt_mul_of_lt_of_le x1 (Nat.le_of_lt w1) hN
  · rw [e, f, g]
    have h1 := gj y0
    have h2 := gj w0
    have h3 : (z : Rat) ≠ 0 := fun h => hz (by exact_mod_cast h)
    have h4 := gj hza
    have h5 : ((z.natAbs : Nat) : Rat) = (z.sign : Rat) * (z : Rat) := by
      have : ((z.natAbs : Nat) : Int) = z.sign * z := by
        rcases Int.lt_or_gt_of_ne hz with h | h
        · rw [Int.sign_eq_neg_one_of_neg h]; omega
        · rw [Int.sign_eq_one_of_pos h]; omega
      have h6 : (((z.natAbs : Nat) : Int) : Rat) = ((z.sign * z : Int) : Rat) := by rw [this]
      push_cast at h6 ⊢
      exact h6
    have h7 : (z.sign : Rat) * (z.sign : Rat) = 1 := by
      rcases Int.lt_or_gt_of_ne hz with h | h
      · rw [Int.sign_eq_neg_one_of_neg h]; decide +kernel
      · rw [Int.sign_eq_one_of_pos h]; decide +kernel
    push_cast
    rw [h5] at h4 ⊢
    grind
def SOk (a : Smp) : Prop := Bq 64 a.t ∧ Bq 64 a.p.x ∧ Bq 64 a.p.y
theorem SOk.q {a : Smp} (h : SOk a) : QOk a.t ∧ QOk a.p.x ∧ QOk a.p.y := ⟨h.1.1, h.2.1.1, h.2.2.1⟩
theorem thr_sl {v w t u s c : GQ} (hv : Bq 64 v) (hw : Bq 64 w) (ht : Bq 64 t) (hu : Bq 64 u) (hs : QOk s) (hc : QOk c) (h : a6 t ≠ a6 u)
    (e : a6 s = (a6 w - a6 v) / (a6 u - a6 t)) (f : a6 c = a6 v - (a6 w - a6 v) / (a6 u - a6 t) * a6 t) : Bq 258 s ∧ Bq 390 c := by
  have h1 : Bq 258 s := Bq.div (hw.sub hv) (hu.sub ht) hs (by rw [(eW hu.1 ht.1).2]; grind) (by rw [e, (eW hw.1 hv.1).2, (eW hu.1 ht.1).2])
  refine ⟨h1, ?_⟩
  have k := (hv.sub (h1.mul ht)).le (show 64 + (258 + 64) + 1 ≤ 390 by decide)
  have : c = ah v (aj s t) := dK hc k.1 (by rw [f, (eW hv.1 (eI hs ht.1).1).2, (eI hs ht.1).2, e])
  rw [this]; exact k
theorem thr_bl {a b : Smp} (ha : SOk a) (hb : SOk b) (h : a6 a.t ≠ a6 b.t) : BL 390 (dH a b) := by
  obtain ⟨⟨o1, o2, o3, o4⟩, e1, e2, e3, e4⟩ := lS ha.q hb.q h
  obtain ⟨s1, c1⟩ := thr_sl ha.2.1 hb.2.1 ha.1 hb.1 o2 o1 h e1 e2
  obtain ⟨s2, c2⟩ := thr_sl ha.2.2 hb.2.2 ha.1 hb.1 o4 o3 h e3 e4
  exact ⟨c1, s1.le (by decide), c2, s2.le (by decide)⟩
abbrev DSm (f : Ln) : Prop := DL 390 1000 f
theorem le_pwm {n m k : Nat} (h : n < 2 ^ m) (hk : m ≤ 8 * k) : (le n).length ≤ k := by
  refine (bR k n).2 (Nat.lt_of_lt_of_le h ?_)
  rw [show (256 : Nat) = 2 ^ 8 from rfl, ← Nat.pow_mul]
  exact Nat.pow_le_pow_right (by decide) hk
theorem Bq.szk {m : Nat} {q : GQ} (h : Bq m q) (k : Nat) (hk : m ≤ 8 * k) {j : Nat} (hj : k * 2 ^ j ≤ 70368744177664) : SzQ j q :=
  ⟨Nat.le_trans (Nat.mul_le_mul_right _ (le_pwm h.mag.1 hk)) hj, Nat.le_trans (Nat.mul_le_mul_right _ (le_pwm h.mag.2 hk)) hj⟩
theorem DSm.sz {f : Ln} (h : DSm f) : SzN 30 f := by
  obtain ⟨a, b, c, d⟩ := h.bl (by decide)
  exact ⟨a.szk 125 (by decide) (by decide), b.szk 125 (by decide) (by decide), c.szk 125 (by decide) (by decide), d.szk 125 (by decide) (by decide)⟩
def tdv (a b : Smp) (r : GQ) : GQ := au a.t (aj r (ah b.t a.t))
theorem rP {a b : Smp} {r : GQ} (ha : QOk a.t) (hb : QOk b.t) (hr : QOk r) : a6 (tdv a b r) = a6 a.t + a6 r * (a6 b.t - a6 a.t) := by
  unfold tdv
  rw [(gm ha (eI hr (eW hb ha).1).1).2, (eI hr (eW hb ha).1).2, (eW hb ha).2]
theorem kX {a b : Pnt} {r : GQ} (ha : QOk a.x ∧ QOk a.y) (hb : QOk b.x ∧ QOk b.y) (hr : QOk r) :
    (QOk (fG a b r).x ∧ QOk (fG a b r).y) ∧ a6 (fG a b r).x = a6 a.x + (a6 b.x - a6 a.x) * a6 r ∧ a6 (fG a b r).y = a6 a.y + (a6 b.y - a6 a.y) * a6 r := by
  unfold fG plAdd so plSub
  dsimp only
  obtain ⟨x1, x2⟩ := eW hb.1 ha.1
  obtain ⟨x3, x4⟩ := eI x1 hr
  obtain ⟨x5, x6⟩ := gm ha.1 x3
  obtain ⟨y1, y2⟩ := eW hb.2 ha.2
  obtain ⟨y3, y4⟩ := eI y1 hr
  obtain ⟨y5, y6⟩ := gm ha.2 y3
  exact ⟨⟨x5, y5⟩, by rw [x6, x4, x2], by rw [y6, y4, y2]⟩
theorem thr_lv {a b : Smp} (ha : SOk a) (hb : SOk b) (h : a6 a.t ≠ a6 b.t) (q : GQ) :
    lvN (ay q) (dH a b) = ((a6 a.p.x + (a6 q - a6 a.t) * ((a6 b.p.x - a6 a.p.x) / (a6 b.t - a6 a.t)), 0), (a6 a.p.y + (a6 q - a6 a.t) * ((a6 b.p.y - a6 a.p.y) / (a6 b.t - a6 a.t)), 0)) := by
  obtain ⟨o, e1, e2, e3, e4⟩ := lS ha.q hb.q h
  obtain ⟨x, xa, xb, xc⟩ := o.X
  obtain ⟨y, ya, yb, yc⟩ := o.Y
  unfold lvN lv
  rw [if_pos (sV q).2.1, if_pos (sV q).2.1, (sV q).1, xa, xb, xc, ya, yb, yc, e1, e2, e3, e4, gD.2]
  exact Prod.ext (Prod.ext (by dsimp only; grind) rfl) (Prod.ext (by dsimp only; grind) rfl)
section
variable [K : Key] [KR : KeyR]
theorem dkS : Dk DSm where
  ru := lines_ru (m := 390) (M := 1000) (n := 200) (fun t ht => by obtain ⟨q, k, rfl⟩ := KR.r t ht; rw [(sV q).1]; exact k) (by decide) (by decide)
  ok := fun f h => h.ok
structure Ups (l : List Smp) : Prop where
  ok : ∀ i, i < l.length → SOk (gt l i)
  tm : ∀ i, i < l.length → Tm (ay (gt l i).t)
  up : ∀ i, i + 1 < l.length → a6 (gt l i).t < a6 (gt l (i + 1)).t
variable {l : List Smp}
omit KR in
theorem Ups.lt (h : Ups l) : ∀ {i j : Nat}, i < j → j < l.length → a6 (gt l i).t < a6 (gt l j).t
  | i, j + 1, hij, hj => by
    have h1 := h.up j hj
    by_cases e : i = j
    · rw [e]; exact h1
    · have := Ups.lt h (show i < j by omega) (by omega)
      grind
omit K KR in
theorem rsg_neg {r : Rat} (h : r < 0) : rsg r = -1 := by unfold rsg; rw [if_pos h]
omit KR in
theorem tk_q {p q : GQ} (hp : QOk p) (hq : QOk q) (tp : Tm (ay p)) (tq : Tm (ay q)) (h : a6 p < a6 q) : tk (ay p) < tk (ay q) :=
  oU tp tq (by rw [fr_cmp hp hq, rsg_neg (by grind)])
omit KR in
theorem tk_q' {p q : GQ} (hp : QOk p) (hq : QOk q) (tp : Tm (ay p)) (tq : Tm (ay q)) (h : tk (ay p) < tk (ay q)) : a6 p < a6 q := by
  refine Classical.byContradiction fun e => ?_
  by_cases e2 : a6 p = a6 q
  · rw [dK hp hq e2] at h; omega
  · have := tk_q hq hp tq tp (by grind); omega
omit KR in
theorem Ups.tk (h : Ups l) {i j : Nat} (hij : i < j) (hj : j < l.length) : Go.Sx.tk (ay (gt l i).t) < Go.Sx.tk (ay (gt l j).t) :=
  tk_q (h.ok i (by omega)).1.1 (h.ok j hj).1.1 (h.tm i (by omega)) (h.tm j hj) (h.lt hij hj)
omit KR in
theorem Ups.tkle (h : Ups l) {i j : Nat} (hij : i ≤ j) (hj : j < l.length) : Go.Sx.tk (ay (gt l i).t) ≤ Go.Sx.tk (ay (gt l j).t) := by
  by_cases e : i = j
  · rw [e]; exact Nat.le_refl _
  · exact Nat.le_of_lt (h.tk (by omega) hj)
omit K KR in
theorem sW {n : Nat} {u : U Ln} (h : u ∈ frP l n) : ∃ i, i < n ∧ u = frF l i := by
  unfold frP at h
  obtain ⟨i, hi, rfl⟩ := List.mem_map.1 h
  exact ⟨i, List.mem_range.1 hi, rfl⟩
omit KR in
theorem Ups.wv (h : Ups l) {i : Nat} (hi : i + 1 < l.length) : Wv (frF l i).iv ∧ DSm (frF l i).f := by
  have h1 := h.tk (Nat.lt_succ_self i) hi
  refine ⟨⟨⟨h.tm i (by omega), h.tm (i + 1) hi⟩, Nat.le_of_lt h1, fun e => absurd e (Nat.ne_of_lt h1)⟩, .inl (thr_bl (h.ok i (by omega)) (h.ok (i + 1) hi) (by have := h.up i hi; grind))⟩
omit KR in
theorem Ups.dj (h : Ups l) : (frP l (l.length - 1)).Pairwise fun a b => Dj a.iv b.iv := by
  unfold frP
  refine List.pairwise_map.2 ((List.pairwise_lt_range (n := l.length - 1)).imp_of_mem fun {i j} hi hj hij => .inl ?_)
  have hj := List.mem_range.1 hj
  have h1 := h.tkle (show i + 1 ≤ j by omega) (by omega)
  unfold dS dZ frF
  simp only [cond_false, decide_eq_true (show 0 < j by omega), cond_true]
  omega
theorem Ups.normal (h : Ups l) : ∃ N, aP (frP l (l.length - 1)) = (N, 0) ∧ NFL DSm (frP l (l.length - 1)) N :=
  dkS.normal (fun x hx => by obtain ⟨i, hi, rfl⟩ := sW hx; exact h.wv (i := i) (by omega)) h.dj
theorem Ups.one (h : Ups l) (h1 : l.length = 1) : aP [frO l] = ([frO l], 0) := by
  have t0 := h.tm 0 (by omega)
  have o0 := h.ok 0 (by omega)
  have hd : DSm (frO l).f := .inl ⟨o0.2.1.le (by decide), Bq.zero (by decide), o0.2.2.le (by decide), Bq.zero (by decide)⟩
  refine dkS.self ⟨fun x hx => ?_, List.pairwise_singleton _ _, fun i hi => ?_, fun x hx _ => ?_⟩ fun v hv => ?_
  · rw [List.mem_singleton.1 hx]; exact ⟨⟨t0, t0⟩, Nat.le_refl _, fun _ => ⟨rfl, rfl⟩⟩
  · have : i + 1 < 1 := hi; omega
  · rw [List.mem_singleton.1 hx]; exact iP hd.ok t0.ok.tok rfl rfl
  · rw [List.mem_singleton.1 hv]; exact hd
omit KR in
theorem Ups.val (h : Ups l) {i j : Nat} (hi : i + 1 < l.length) (hj : j + 1 < l.length) {r : GQ} (hr : QOk r) (r0 : 0 ≤ a6 r) (r1 : a6 r ≤ 1) (ht : Tm (ay (tdv (gt l i) (gt l (i + 1)) r)))
    (hin : inU (frF l j).iv (2 * Go.Sx.tk (ay (tdv (gt l i) (gt l (i + 1)) r)))) :
    lvN (ay (tdv (gt l i) (gt l (i + 1)) r)) (frF l j).f = ((a6 (fG (gt l i).p (gt l (i + 1)).p r).x, 0), (a6 (fG (gt l i).p (gt l (i + 1)).p r).y, 0)) := by
  have a := h.ok i (by omega)
  have b := h.ok (i + 1) hi
  have c := h.ok j (by omega)
  have d := h.ok (j + 1) hj
  have hu := h.up i hi
  have hv := h.up j hj
  have et := rP (r := r) a.q.1 b.q.1 hr
  have qt : QOk (tdv (gt l i) (gt l (i + 1)) r) := (gm a.1.1 (eI hr (eW b.1.1 a.1.1).1).1).1
  obtain ⟨_, p1, p2⟩ := kX (r := r) ⟨a.2.1.1, a.2.2.1⟩ ⟨b.2.1.1, b.2.2.1⟩ hr
  generalize tdv (gt l i) (gt l (i + 1)) r = t at *
  have g1 : a6 (gt l i).t ≤ a6 t := by rw [et]; have := Rat.mul_nonneg r0 (show 0 ≤ a6 (gt l (i + 1)).t - a6 (gt l i).t by grind); grind
  have g2 : a6 t ≤ a6 (gt l (i + 1)).t := by
    rw [et]
    have := Rat.mul_nonneg (show 0 ≤ 1 - a6 r by grind) (show 0 ≤ a6 (gt l (i + 1)).t - a6 (gt l i).t by grind)
    grind
  have g3 : a6 (gt l j).t ≤ a6 t ∧ (0 < j → a6 (gt l j).t < a6 t) := by
    have e1 : dZ (frF l j).iv ≤ 2 * Go.Sx.tk (ay t) := hin.1
    have key : ¬ a6 t < a6 (gt l j).t := fun e => by
      have := tk_q qt c.1.1 ht (h.tm j (by omega)) e
      have : 2 * Go.Sx.tk (ay (gt l j).t) ≤ dZ (frF l j).iv := by unfold dZ frF; simp only; omega
      omega
    refine ⟨by grind, fun hj0 => ?_⟩
    have : dZ (frF l j).iv = 2 * Go.Sx.tk (ay (gt l j).t) + 1 := by unfold dZ frF; simp only [decide_eq_true hj0, cond_true]
    exact tk_q' c.1.1 qt (h.tm j (by omega)) ht (by omega)
  have g4 : a6 t ≤ a6 (gt l (j + 1)).t := by
    have e1 : ((2 * Go.Sx.tk (ay t) : Nat) : Int) ≤ dS (frF l j).iv := hin.2
    have : dS (frF l j).iv = 2 * (Go.Sx.tk (ay (gt l (j + 1)).t) : Int) := by unfold dS frF; simp only [cond_false]; omega
    have key : ¬ a6 (gt l (j + 1)).t < a6 t := fun e => by
      have := tk_q d.1.1 qt (h.tm (j + 1) hj) ht e
      omega
    grind
  show lvN (ay t) (dH (gt l j) (gt l (j + 1))) = _
  rw [thr_lv c d (by grind), p1, p2]
  by_cases e : j = i
  · subst e
    have hz : a6 (gt l (j + 1)).t - a6 (gt l j).t ≠ 0 := by grind
    have k : ∀ v w : Rat, (a6 t - a6 (gt l j).t) * ((w - v) / (a6 (gt l (j + 1)).t - a6 (gt l j).t)) = (w - v) * a6 r := fun v w => by rw [et]; grind
    rw [k, k]
  · have e2 : j + 1 = i := by
      rcases Nat.lt_trichotomy j i with h1 | h1 | h1
      · by_cases e3 : j + 1 = i
        · exact e3
        · exfalso; have := h.lt (show j + 1 < i by omega) (by omega); grind
      · exact absurd h1 e
      · exfalso
        have h2 := g3.2 (by omega)
        by_cases e3 : j = i + 1
        · subst e3; grind
        · have := h.lt (show i + 1 < j by omega) (by omega); grind
    subst e2
    have e5 : a6 t = a6 (gt l (j + 1)).t := by grind
    have hz : a6 (gt l (j + 1)).t - a6 (gt l j).t ≠ 0 := by grind
    have hz2 : a6 (gt l (j + 1 + 1)).t - a6 (gt l (j + 1)).t ≠ 0 := by grind
    have er : a6 r = 0 := by
      have : a6 r * (a6 (gt l (j + 1 + 1)).t - a6 (gt l (j + 1)).t) = 0 := by grind
      rcases Rat.mul_eq_zero.1 this with h1 | h1
      · exact h1
      · exact absurd h1 hz2
    have k : ∀ v w : Rat, (a6 t - a6 (gt l j).t) * ((w - v) / (a6 (gt l (j + 1)).t - a6 (gt l j).t)) = w - v := fun v w => by rw [e5]; grind
    rw [k, k, er]
    exact Prod.ext (Prod.ext (by dsimp only; grind) rfl) (Prod.ext (by dsimp only; grind) rfl)
omit KR in
theorem Ups.cov (h : Ups l) {i : Nat} (hi : i + 1 < l.length) {r : GQ} (hr : QOk r) (r0 : 0 ≤ a6 r) (r1 : a6 r ≤ 1) (ht : Tm (ay (tdv (gt l i) (gt l (i + 1)) r))) :
    ∃ w ∈ frP l (l.length - 1), inU w.iv (2 * Go.Sx.tk (ay (tdv (gt l i) (gt l (i + 1)) r))) := by
  have a := h.ok i (by omega)
  have b := h.ok (i + 1) hi
  have hu := h.up i hi
  have et := rP (r := r) a.q.1 b.q.1 hr
  have qt : QOk (tdv (gt l i) (gt l (i + 1)) r) := (gm a.1.1 (eI hr (eW b.1.1 a.1.1).1).1).1
  generalize tdv (gt l i) (gt l (i + 1)) r = t at *
  have g1 : a6 (gt l i).t ≤ a6 t := by rw [et]; have := Rat.mul_nonneg r0 (show 0 ≤ a6 (gt l (i + 1)).t - a6 (gt l i).t by grind); grind
  have g2 : a6 t ≤ a6 (gt l (i + 1)).t := by
    rw [et]
    have := Rat.mul_nonneg (show 0 ≤ 1 - a6 r by grind) (show 0 ≤ a6 (gt l (i + 1)).t - a6 (gt l i).t by grind)
    grind
  have le : ∀ {p q : GQ}, QOk p → QOk q → Tm (ay p) → Tm (ay q) → a6 p ≤ a6 q → Go.Sx.tk (ay p) ≤ Go.Sx.tk (ay q) := fun {p q} hp hq tp tq hle => by
    refine Nat.le_of_not_lt fun e => ?_
    have := tk_q' hq hp tq tp e
    grind
  have m1 := le a.1.1 qt (h.tm i (by omega)) ht g1
  have m2 := le qt b.1.1 ht (h.tm (i + 1) hi) g2
  have mem : ∀ j, j + 1 < l.length → frF l j ∈ frP l (l.length - 1) := fun j hj => by unfold frP; exact List.mem_map_of_mem (List.mem_range.2 (by omega))
  by_cases e : Go.Sx.tk (ay (gt l i).t) = Go.Sx.tk (ay t) ∧ 0 < i
  · obtain ⟨j, rfl⟩ : ∃ j, i = j + 1 := ⟨i - 1, by omega⟩
    refine ⟨frF l j, mem j (by omega), ?_, ?_⟩
    · have := h.tk (show j < j + 1 by omega) (by omega)
      have h2 : dZ (frF l j).iv ≤ 2 * Go.Sx.tk (ay (gt l j).t) + 1 := by unfold dZ frF; cases decide (0 < j) <;> simp
      omega
    · have : dS (frF l j).iv = 2 * (Go.Sx.tk (ay (gt l (j + 1)).t) : Int) := by unfold dS frF; simp only [cond_false]; omega
      omega
  · refine ⟨frF l i, mem i hi, ?_, ?_⟩
    · by_cases h0 : 0 < i
      · have h2 : dZ (frF l i).iv = 2 * Go.Sx.tk (ay (gt l i).t) + 1 := by unfold dZ frF; simp only [decide_eq_true h0, cond_true]
        omega
      · have h2 : dZ (frF l i).iv = 2 * Go.Sx.tk (ay (gt l i).t) := by unfold dZ frF; simp only [decide_eq_false h0, cond_false]; omega
        omega
    · have : dS (frF l i).iv = 2 * (Go.Sx.tk (ay (gt l (i + 1)).t) : Int) := by unfold dS frF; simp only [cond_false]; omega
      omega
omit KR in
theorem Ups.at (h : Ups l) {N : List (U Ln)} (hN : NFL DSm (frP l (l.length - 1)) N) {i : Nat} (hi : i + 1 < l.length) {r : GQ} (hr : QOk r) (r0 : 0 ≤ a6 r) (r1 : a6 r ≤ 1) (ht : Tm (ay (tdv (gt l i) (gt l (i + 1)) r))) :
    atRat N (tdv (gt l i) (gt l (i + 1)) r) = (fG (gt l i).p (gt l (i + 1)).p r, true) := by
  have a := h.ok i (by omega)
  have b := h.ok (i + 1) hi
  have qt : QOk (tdv (gt l i) (gt l (i + 1)) r) := (gm a.1.1 (eI hr (eW b.1.1 a.1.1).1).1).1
  obtain ⟨w, hw, hin⟩ := h.cov hi hr r0 r1 ht
  rcases AtL_spec hN.nf.wv hN.nf.ord ht with ⟨u, hu, hi2, e⟩ | ⟨hno, _⟩
  · obtain ⟨w2, hw2, hin2, hs⟩ := hN.sem.s1 _ ht u hu hi2
    obtain ⟨j, hj, rfl⟩ := sW hw2
    have hv := h.val hi (show j + 1 < l.length by omega) hr r0 r1 ht hin2
    have du := hN.ok u hu
    have dw := (h.wv (show j + 1 < l.length by omega)).2
    have hl := (eQ du.ok dw.ok ht.ok.tok).1 hs
    rw [hv] at hl
    obtain ⟨⟨px, py⟩, p1, p2⟩ := kX (r := r) (a := (gt l i).p) (b := (gt l (i + 1)).p) ⟨a.2.1.1, a.2.2.1⟩ ⟨b.2.1.1, b.2.2.1⟩ hr
    unfold atRat
    rw [e]
    generalize tdv (gt l i) (gt l (i + 1)) r = t at *
    show (_, _) = _
    obtain ⟨ex, ev⟩ := pI (t := t) du.ok.X.1 qt
    obtain ⟨ey, ew⟩ := pI (t := t) du.ok.Y.1 qt
    have h1 : a6 (aI (lX u.f) t) = a6 (fG (gt l i).p (gt l (i + 1)).p r).x := by
      have := congrArg (fun x => x.1.1) hl
      unfold lvN lv at this
      rw [if_pos (sV t).2.1, (sV t).1] at this
      rw [ev]; exact this
    have h2 : a6 (aI (lY u.f) t) = a6 (fG (gt l i).p (gt l (i + 1)).p r).y := by
      have := congrArg (fun x => x.2.1) hl
      unfold lvN lv at this
      rw [if_pos (sV t).2.1, if_pos (sV t).2.1, (sV t).1] at this
      rw [ew]; exact this
    have h3 := dK ex px h1
    have h4 := dK ey py h2
    show ((⟨aI (lX u.f) t, aI (lY u.f) t⟩ : Pnt), true) = _
    rw [h3, h4]
  · obtain ⟨u, hu, hi3, _⟩ := hN.sem.c1 _ ht w hw hin
    exact absurd hi3 (hno u hu)
end
end Go.Sx
namespace Go.Sx
open Go Go.RowKit Go.Proofs
structure XS where
  t : XQ
  x : XQ
  y : XQ
def cXS (s : XS) : List Value := cXQ s.t ++ (cXQ s.x ++ cXQ s.y)
def vXS (s : XS) : Value := .agg (cXS s).toArray
instance celXS (s : XS) : Cel (vXS s) (cXS s) := ⟨rfl⟩
instance dcXS (s : XS) : Dc (cXS s) (vXS s) := ⟨rfl⟩
def xq0 : XQ := qX oQ
instance inhXQ : Inhabited XQ := ⟨xq0⟩
instance inhXS : Inhabited XS := ⟨⟨xq0, xq0, xq0⟩⟩
theorem lD (x : XQ) : ∀ c ∈ cXQ x, c.oneCell' = true := by
  intro c h
  unfold cXQ cXI at h
  simp at h
  rcases h with rfl | rfl | rfl | rfl <;> rfl
instance codXQ : Cod XQ := ⟨cXQ, 4, fun _ => rfl, lD, by decide⟩
instance codXS : Cod XS := ⟨cXS, 12, fun _ => rfl, fun s => cw (lD _) (cw (lD _) (lD _)), by decide⟩
end Go.Sx
