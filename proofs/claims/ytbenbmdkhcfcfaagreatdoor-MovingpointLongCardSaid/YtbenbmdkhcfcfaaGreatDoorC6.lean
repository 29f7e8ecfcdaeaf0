/- A part of the proof of movingpointLong. -/
import Derived.Test.YtbenbmdkhcfcfaaGreatDoorC5
import Derived.Shelf.SlSortCmp.WholeK
import Derived.Test.YtbenbmdkhcfcfaaGreatDoorProg
import Derived.Test.YtbenbmdkhcfcfaaGreatDoorC4
import Derived.Test.YtbenbmdkhcfcfaaGreatDoorB8
set_option linter.unusedVariables false
set_option linter.unusedSimpArgs false
open Go.Proofs.Tryz renaming isAgg3 → aa3, runUnderlying93 → uu93, runUnderlying293 → uu293, runUnderlying232 → uu232, runUnderlying80 → uu80, runUnderlying47 → uu47
namespace Go.Sx
open Go Go.RowKit Go.Proofs
set_option maxRecDepth 100000
set_option maxHeartbeats 40000000
attribute [local irreducible] Code.wp wpList Rd Step ObS Ent
attribute [local irreducible] ar aO am au aA bG
attribute [local irreducible] aN aT ak ax aU aj aY
theorem BxO.of {L : List GR} (h : (∀ x ∈ L, SzR 36 x) ∧ FlO (mC L (L.length - 1)) ∧ FlO (eP (kV L (L.length - 1))) ∧ (fI (kV L (L.length - 1))).mag ≤ 1099511627776) : BxO L := ⟨fun i => All.gt h.1 nG.1, h.2.1, h.2.2.1, h.2.2.2⟩
theorem enR_ok (k : Nat) : SzR 30 (enR exU k) ∧ Sm (enR exU k).r := by
 have h : (SzR 30 (gt exU (k / 2)).iv.lo ∧ Sm (gt exU (k / 2)).iv.lo.r) ∧ (SzR 30 (gt exU (k / 2)).iv.hi ∧ Sm (gt exU (k / 2)).iv.hi.r) := All.gt (p := fun x : U Ln => (SzR 30 x.iv.lo ∧ Sm x.iv.lo.r) ∧ (SzR 30 x.iv.hi ∧ Sm x.iv.hi.r)) exE ⟨⟨nG.2.1, nG.2.2.1⟩, ⟨nG.2.1, nG.2.2.1⟩⟩
 unfold enR; cases k % 2 == 0
 · exact h.2
 · exact h.1
theorem eqi135 : EqIn Tryz.prog 2 135 vBx := eqS (c := cBx) (fun _ => rfl) Tryz.underlying135 Tryz.stoodInHeld135 fun d x y w hd => by
 refine Eq.trans (eqF (by decide) (dE aa3 rfl w) (dE aa3 rfl w) (rP Tryz.underlying3 d og _ _ w) (eqF (by decide) (dE aa3 rfl w) (dE aa3 rfl w) (rP Tryz.underlying3 d og _ _ w) (eqF (by decide) (dE aa3 rfl w) (dE aa3 rfl w) (rP Tryz.underlying3 d og _ _ w) (eqF (by decide) (dE aa3 rfl w) (dE aa3 rfl w) (rP Tryz.underlying3 d og _ _ w) (eqF (by decide) (dE aa3 rfl w) (dE aa3 rfl w) (rP Tryz.underlying3 d og _ _ w) (eqF (by decide) (dE aa3 rfl w) (dE aa3 rfl w) (rP Tryz.underlying3 d og _ _ w) eqF0)))))) ?_
 congr 1
 rw [decide_eq_decide]
 cases x; cases y; simp
theorem eqp135 : EqP Tryz.prog 135 vBx := EqIn.p (k := 2) rfl (c := fun x => (cBx x).toArray) (fun _ => rfl) Tryz.eqGuardType135 eqi135
instance yC6_1 : Ep Tryz.prog 135 Bx inferInstance vBx := ⟨eqp135⟩
instance yC6_2 (b d f : Int) : Bu Tryz.prog 135 [1, 3, 5] [.int .i64 b, .int .i64 d, .int .i64 f] (vBx ⟨0, b, 0, d, 0, f⟩) := Bu.of bld135 rfl rfl
theorem exm_last : ((0 : Int) == 0 && ((exU.length : Nat) : Int) == 2 && decide ((gt exU 1).f = ⟨am 4, oQ, am (-6), am 3⟩) && (gt exU 1).iv.openLo && (([aO 2].length : Nat) : Int) == 1 && decide (gt [aO 2] 0 = aO 2) && (0 : Int) == 0 && decide ((⟨0, 4, 0, 6, 0, 4⟩ : Bx) = ⟨0, 4, 0, 6, 0, 4⟩)) = true := by decide +kernel
theorem known_ct (w0 : World) : Calls Tryz.prog 14 #[] w0 (dH w0 (.bool true) True) := by
 refine enter (N := 64) (args := []) Tryz.func14 rfl rfl ?_; intro ac h
 haveI : On := ⟨trivial⟩
 refine gz h <| (W) ?_; clear h ac; intro ac wo h
 refine jZ (xs := exampleS) h (cO Tryz.call83 rfl) (fun w_ hB_ hS_ => rO w_) rfl ?_; clear h ac wo; intro s1 ac wo _ h
 refine gz h <| (W) ?_; clear h ac wo; intro ac wo h
 have cS : ∀ lv w, View w lv exampleS → Calls Tryz.prog 16 #[lv] w (RetT w 88 exU [.int .i64 0] True) := fun lv w hv => by
  have := frS_ct exampleS lv (by decide) (fun i => All.gt exS_z nG.2.2.2.2) (exU, 0) _ (fun lv' w' hv' => by
   have h2 := rJ (frP exampleS 2) lv' (by decide) exP_z w' hv'
   rw [exN_is] at h2; exact h2) w hv
  rw [exS_is] at this; exact this
 refine uf (xs := exU) h (cO Tryz.call16 rfl) (fun w_ hB_ hS_ => cS s1 w_ (row_view hS_ 0 rfl)) rfl ?_; clear h ac wo; intro s2 ac wo _ h
 refine gz h <| (W) ?_; clear h ac wo; intro ac wo h
 have cT : ∀ lv w, View w lv exU → Calls Tryz.prog 51 #[lv] w (RetR w 71 [aO 2] True) := fun lv w hv => by
  have := Turns_ct exU lv (by decide) (fun x hx => l8 (exZ x hx) (by omega)) (fun i => All.gt (p := fun x : U Ln => SzR 30 x.iv.lo) (fun x hx => (exE x hx).1.1) nG.2.1) w hv
  rw [exI_is] at this; exact this
 refine jZ (xs := [aO 2]) h (cO Tryz.call51 rfl) (fun w_ hB_ hS_ => cT s2 w_ (row_view hS_ 0 rfl)) rfl ?_; clear h ac wo; intro s3 ac wo _ h
 have cB : ∀ lv w, View w lv exU → Calls Tryz.prog 84 #[lv] w (dH w (.tuple #[vBx ⟨0, 4, 0, 6, 0, 4⟩, .int .i64 0]) True) := fun lv w hv => by
  have := box_ct exU lv (by decide) (by decide) (fun i => All.gt (p := fun x : U Ln => SzN 30 x.f) (fun x hx => (exZ x hx).2) nG.2.2.2.1) enR_ok (BxO.of exX) (BxO.of exY) (BxO.of exT) w hv
  rw [exB_is] at this; exact this
 refine gz h <| (xc (ct := by exact fun w_ hB_ hS_ => cB s2 w_ (row_view hS_ 1 rfl))) <| (xa) fun b4 => (W) ?_; clear h ac wo; intro ac wo h
 have n4 := bV 4 30 og og
 have n6 := bV (-6) 30 og og
 have n3 := bV 3 30 og og
 have n2 := lG 2 30 og og
 replace h : St w0 64 [(1, s2), (2, .int .i64 0), (3, s3), (4, ptr b4 0), (5, .int .i64 0)] [.blk b4 (cBx ⟨0, 4, 0, 6, 0, 4⟩) 135, .row (α := GR) 71 s3 [aO 2], .row (α := U Ln) 88 s2 exU] ac wo := h.re [0, 1, 2]
 have z1 : gt exU 1 = ⟨⟨rr 2, rr 4, true, false⟩, ⟨am 4, am 0, am (-6), am 3⟩⟩ := rfl
 have nn2 : NN s2 2 := h.row_nn 2 rfl (by decide)
 have nn3 : NN s3 1 := h.row_nn 1 rfl (by decide)
 refine gz h <| (dr0 (hob := (oG (by exact fun hg => n4)) <| (oG (by exact fun hg => n6)) <| (oG (by exact fun hg => n3)) <| (oG (by exact fun hg => n2)) <| oE)) <| (W) ?_; clear h ac wo; intro ac wo h
 have e : ((0 : Int) == 0 && ((exU.length : Nat) : Int) == 2 && decide ((gt exU 1).f = ⟨am 4, oQ, am (-6), am 3⟩) && (gt exU 1).iv.openLo && (([aO 2].length : Nat) : Int) == 1 && decide (gt [aO 2] 0 = aO 2) && (0 : Int) == 0 && decide ((⟨0, 4, 0, 6, 0, 4⟩ : Bx) = ⟨0, 4, 0, 6, 0, 4⟩)) = true := exm_last
 exact (rt h) (h.retP (congrArg Value.bool e) trivial)
end Go.Sx
namespace Go.Sx
open Go Go.RowKit Go.Proofs
set_option maxRecDepth 100000
set_option maxHeartbeats 40000000
attribute [local irreducible] Code.wp wpList Rd Step ObS Ent
theorem eqi88 : EqIn Tryz.prog 6 88 vUN := eqS (c := cUN) (fun _ => rfl) Tryz.underlying88 Tryz.stoodInHeld88 fun d x y w hd => by
 refine Eq.trans (eqF (by decide) (cp Tryz.isAgg86 Tryz.sizeOf86 (v := vV x.iv) rfl w) (cp Tryz.isAgg86 Tryz.sizeOf86 (v := vV y.iv) rfl w) (eqi86 d _ _ w og) (eqF (by decide) (cp Tryz.isAgg79 Tryz.sizeOf79 (v := vN x.f) rfl w) (cp Tryz.isAgg79 Tryz.sizeOf79 (v := vN y.f) rfl w) (eqi79 d _ _ w og) eqF0)) ?_
 congr 1
 rw [decide_eq_decide]
 cases x; cases y; simp
theorem eqp88 : EqP Tryz.prog 88 vUN := EqIn.p (k := 6) rfl (c := fun x => (cUN x).toArray) (fun _ => rfl) Tryz.eqGuardType88 eqi88
instance yC6_3 : Ep Tryz.prog 88 (U Ln) inferInstance vUN := ⟨eqp88⟩
end Go.Sx
namespace Go.Sx
open Go Go.RowKit Go.Proofs
set_option maxRecDepth 100000
set_option maxHeartbeats 40000000
attribute [local irreducible] Code.wp wpList Rd Step ObS Ent
attribute [local irreducible] ar aO am au aA bG ao
attribute [local irreducible] aN aT ak ax aU aj aY
def cSq (s : Stq) : List Value := [.int .u8 ((s.time : Nat) : Int), .int .u8 ((s.x : Nat) : Int), .int .u8 ((s.y : Nat) : Int), .int .u8 ((s.kind : Nat) : Int)]
def vSq (s : Stq) : Value := .agg (cSq s).toArray
instance yC6_4 : Cod Stq := ⟨cSq, 4, fun _ => rfl, fun x => by simp [cSq, Value.oneCell'], by decide⟩
instance yC6_5 (s : Stq) : Cel (vSq s) (cSq s) := ⟨rfl⟩
instance yC6_6 (s : Stq) : Dc (cSq s) (vSq s) := ⟨rfl⟩
instance yC6_7 : Sz Tryz.prog 93 4 := ⟨Tryz.sizeOf93⟩
instance yC6_8 : Sz Tryz.prog 293 4 := ⟨Tryz.sizeOf293⟩
instance yC6_9 : Sz Tryz.prog 91 1 := ⟨Tryz.sizeOf91⟩
instance yC6_10 : Ag Tryz.prog 93 true := ⟨Tryz.isAgg93⟩
instance yC6_11 : Ag Tryz.prog 293 true := ⟨Tryz.isAgg293⟩
instance yC6_12 : Ag Tryz.prog 91 false := ⟨Tryz.isAgg91⟩
instance yC6_13 : Un Tryz.prog 91 (.slice 293) := ⟨Tryz.runUnderlying91⟩
instance yC6_14 : Fl Tryz.prog 93 0 5 0 := ⟨⟨_, _, uu93, rfl, rfl, rfl⟩⟩
instance yC6_15 : Fl Tryz.prog 93 1 5 1 := ⟨⟨_, _, uu93, rfl, rfl, rfl⟩⟩
instance yC6_16 : Fl Tryz.prog 93 2 5 2 := ⟨⟨_, _, uu93, rfl, rfl, rfl⟩⟩
instance yC6_17 : Fl Tryz.prog 93 3 91 3 := ⟨⟨_, _, uu93, rfl, rfl, rfl⟩⟩
instance yC6_18 : Fl Tryz.prog 293 0 5 0 := ⟨⟨_, _, uu293, rfl, rfl, rfl⟩⟩
instance yC6_19 : Fl Tryz.prog 293 1 5 1 := ⟨⟨_, _, uu293, rfl, rfl, rfl⟩⟩
instance yC6_20 : Fl Tryz.prog 293 2 5 2 := ⟨⟨_, _, uu293, rfl, rfl, rfl⟩⟩
instance yC6_21 : Fl Tryz.prog 293 3 5 3 := ⟨⟨_, _, uu293, rfl, rfl, rfl⟩⟩
instance yC6_22 : Zc Tryz.prog 293 (cSq ⟨0, 0, 0, 0⟩) := ⟨⟨_, Tryz.zeroValue293, rfl⟩⟩
instance yC6_23 : Sh Tryz.prog 293 Stq vSq := ⟨trivial⟩
section
variable {P : Program} {w0 : World} {F : List (Nat × Value)} {t tt : TypeId} {x y : Operand}
theorem rmN (d : Nat) {k : IntKind} {m : Nat} (hx : ev F x = some (.int k ((m : Nat) : Int))) (hy : ev F y = some (.int k ((d : Nat) : Int))) (h : Nat.blt 0 d = true) : Rd P w0 F [] (.binOp .rem t x y tt) (.int k ((m % d : Nat) : Int)) :=
  pK hx hy (by have := Nat.le_of_ble_eq_true h; omega) (by rw [Int.tmod_eq_emod_of_nonneg (by omega)]; rfl)
theorem cvI {m : Nat} (hm : m < 256) (hx : ev F x = some (.int .u8 ((m : Nat) : Int))) : Rd Tryz.prog w0 F [] (.convert 5 3 x) (.int .i64 ((m : Nat) : Int)) :=
  aV Tryz.runUnderlying5 Tryz.runUnderlying3 hx (by rw [IntKind.wrap_i64]; omega)
end
theorem t_nrmM {P : Program} {Q : Exit → Act → World → Prop} {y : Code} {a : Act} {w : World} (h : y.wp P Q a w) : thn P y Q .normal a w := by unfold thn; exact h
theorem jn {P : Program} {Q : Exit → Act → World → Prop} {x y : Code} {a : Act} {w : World} (M : Act → World → Prop) (h : x.wp P (fun e a w => e = .normal ∧ M a w) a w) (k : ∀ a w, M a w → y.wp P Q a w) : x.wp P (thn P y Q) a w :=
  Code.wp_mono (fun e a w h => by obtain ⟨rfl, h⟩ := h; exact t_nrmM (k a w h)) h
end Go.Sx
namespace Go.Sx
open Go Go.RowKit Go.Proofs
set_option maxRecDepth 100000
set_option maxHeartbeats 40000000
attribute [local irreducible] Code.wp wpList Rd Step ObS Ent
attribute [local irreducible] ar aO am au aA bG ao
attribute [local irreducible] aN aT ak ax aU aj aY dN kw bN aw
instance yC6_24 : Sz Tryz.prog 94 2 := ⟨Tryz.sizeOf94⟩
instance yC6_25 : Ag Tryz.prog 94 true := ⟨Tryz.isAgg94⟩
instance yC6_26 : Un Tryz.prog 94 (.array 2 5) := ⟨Tryz.runUnderlying94⟩
section
variable [K : Key] [KeyZ] [KeyB]
omit [KeyZ] [KeyB] in
end
end Go.Sx
namespace Go.Sx
open Go Go.RowKit Go.Proofs
set_option maxRecDepth 100000
set_option maxHeartbeats 40000000
attribute [local irreducible] Code.wp wpList Rd Step ObS Ent
attribute [local irreducible] ar aO am au aA bG ao aM
attribute [local irreducible] aN aT ak ax aU aj aY dN kw bN aw
instance yC6_27 : Sz Tryz.prog 232 32 := ⟨Tryz.sizeOf232⟩
instance yC6_28 : Ag Tryz.prog 232 true := ⟨Tryz.isAgg232⟩
instance yC6_29 : Un Tryz.prog 118 (.slice 232) := ⟨Tryz.runUnderlying118⟩
instance yC6_30 : Fl Tryz.prog 232 0 86 0 := ⟨⟨_, _, uu232, rfl, rfl, rfl⟩⟩
instance yC6_31 : Fl Tryz.prog 232 1 53 20 := ⟨⟨_, _, uu232, rfl, rfl, rfl⟩⟩
instance yC6_32 : Cf Tryz.prog 237 := ⟨Tryz.call237⟩
instance yC6_33 : Cf Tryz.prog 173 := ⟨Tryz.call173⟩
instance yC6_34 : Cf Tryz.prog 174 := ⟨Tryz.call174⟩
end Go.Sx
namespace Go.Sx
open Go Go.RowKit Go.Proofs
set_option maxRecDepth 100000
set_option maxHeartbeats 40000000
attribute [local irreducible] Code.wp wpList Rd Step ObS Ent
attribute [local irreducible] ar aO am au aA bG ao aM
attribute [local irreducible] aN aT ak ax aU aj aY dN kw bN aw dD
theorem oL (w : World) : (method (Tryz.prog.types.size + Made.depth) 80 (.agg #[]) "Check").run Tryz.prog w = .ok (45, .agg #[]) w := jl (P := Tryz.prog) (T := 80) Tryz.type80 (by kernel_rfl) uu80 w
instance yC6_35 : Mt Tryz.prog 80 (.agg #[]) "Check" 45 := ⟨oL⟩
theorem nj (w : World) : (nilAhead (Tryz.prog.types.size + Made.depth) 80 (.agg #[]) "Check").run Tryz.prog w = .ok (some false) w := ia (P := Tryz.prog) (T := 80) (f := 45) Tryz.type80 (by kernel_rfl) uu80 w
instance yC6_36 : Nl Tryz.prog 80 (.agg #[]) "Check" := ⟨nj⟩
end Go.Sx
namespace Go.Sx
open Go Go.RowKit Go.Proofs
set_option maxRecDepth 100000
set_option maxHeartbeats 40000000
attribute [local irreducible] Code.wp wpList Rd Step ObS Ent
attribute [local irreducible] ar aO am au aA bG ao aM
attribute [local irreducible] aN aT ak ax aU aj aY dN kw bN aw
instance yC6_37 (a b c : GQ) : Bu Tryz.prog 53 [0, 1, 2] [vQ a, vQ b, vQ c] (vD ⟨a, b, c⟩) := Bu.of rY rfl rfl
end Go.Sx
namespace Go.Sx
open Go Go.RowKit Go.Proofs
set_option maxRecDepth 100000
set_option maxHeartbeats 40000000
attribute [local irreducible] Code.wp wpList Rd Step ObS Ent
attribute [local irreducible] ar aO am au aA bG ao aM
attribute [local irreducible] aN aT ak ax aU aj aY dN kw bN aw
instance yC6_38 : Cf Tryz.prog 163 := ⟨Tryz.call163⟩
instance yC6_39 : Cf Tryz.prog 166 := ⟨Tryz.call166⟩
end Go.Sx
namespace Go.Sx
open Go Go.RowKit Go.Proofs
set_option maxRecDepth 100000
set_option maxHeartbeats 40000000
attribute [local irreducible] Code.wp wpList Rd Step ObS Ent
attribute [local irreducible] ar aO am au aA bG ao aM
structure XI where
  neg : Bool
  b : ByteArray
structure XQ where
  n : XI
  d : XI
def cXI (x : XI) : List Value := [.bool x.neg, .string x.b]
def vXI (x : XI) : Value := .agg (cXI x).toArray
def cXQ (x : XQ) : List Value := cXI x.n ++ cXI x.d
def vXQ (x : XQ) : Value := .agg (cXQ x).toArray
instance yC6_40 (x : XI) : Cel (vXI x) (cXI x) := ⟨rfl⟩
instance yC6_41 (x : XI) : Dc (cXI x) (vXI x) := ⟨rfl⟩
instance yC6_42 (x : XQ) : Cel (vXQ x) (cXQ x) := ⟨rfl⟩
instance yC6_43 (x : XQ) : Dc (cXQ x) (vXQ x) := ⟨rfl⟩
section
variable {P : Program} {w0 : World} {F : List (Nat × Value)}
end
section
theorem sh25X : Sh Tryz.prog 25 XI vXI := ⟨trivial⟩
attribute [local instance 2000] sh25X
end
end Go.Sx
namespace Go.Sx
open Go Go.RowKit Go.Proofs
def qX (a : GQ) : XQ := ⟨⟨a.num.neg, bs a.num.mag⟩, ⟨a.den.neg, bs a.den.mag⟩⟩
end Go.Sx
namespace Go.Sx
section
variable {α : Type} [Inhabited α]
def mV (σ : GR → GR) (i : Iv) : Iv := ⟨σ i.lo, σ i.hi, i.openLo, i.openHi⟩
def mU (σ : GR → GR) (φ : α → α) (x : U α) : U α := ⟨mV σ x.iv, φ x.f⟩
def Pu (P : GR → Prop) (D : α → Prop) (x : U α) : Prop := (P x.iv.lo ∧ P x.iv.hi) ∧ D x.f
theorem ko {β γ : Type} [Inhabited β] [Inhabited γ] (m : β → γ) {L : List β} {x : Nat} (h : x < L.length) : gt (L.map m) x = m (gt L x) := by
  rw [gV h, gV (by rw [List.length_map]; exact h), List.getElem_map]
structure Mv (P : GR → Prop) (D : α → Prop) (eqf : α → α → Bool) (same : α → α → GR → Bool) (red : α → GR → α) (σ : GR → GR) (φ : α → α) : Prop where
  inj : ∀ a b, P a → P b → (σ a = σ b ↔ a = b)
  sm : ∀ f g t, D f → D g → P t → same (φ f) (φ g) (σ t) = same f g t
  rd : ∀ f t, D f → P t → red (φ f) (σ t) = φ (red f t)
  rD : ∀ f t, D f → P t → D (red f t)
  eq : ∀ f g, D f → D g → eqf (φ f) (φ g) = eqf f g
variable {P : GR → Prop} {D : α → Prop} {eqf : α → α → Bool} {same : α → α → GR → Bool} {red : α → GR → α} {σ : GR → GR} {φ : α → α}
omit [Inhabited α] in
theorem Mv.dec (M : Mv P D eqf same red σ φ) {a b : GR} (ha : P a) (hb : P b) : decide (σ a = σ b) = decide (a = b) := decide_eq_decide.2 (M.inj a b ha hb)
omit [Inhabited α] in
theorem Mv.inst (M : Mv P D eqf same red σ φ) {i : Iv} (h : P i.lo ∧ P i.hi) : aH (mV σ i) = aH i := by
  unfold aH; exact M.dec h.1 h.2
theorem m9 {L : List (U α)} (hL : ∀ x ∈ L, Pu P D x) {x : Nat} (h : x < L.length) : Pu P D (gt L x) := hL _ (by rw [gV h]; exact List.getElem_mem _)
theorem Mv.held (M : Mv P D eqf same red σ φ) {out : List (U α)} (ho : ∀ x ∈ out, Pu P D x) {t : GR} (ht : P t) : ij (out.map (mU σ φ)) (σ t) = ij out t := by
  unfold ij
  rw [List.length_map]
  by_cases h : 0 < out.length
  · rw [ko _ (by omega)]
    show ((_ && decide (σ (gt out (out.length - 1)).iv.hi = σ t)) && _) = _
    rw [M.dec (m9 ho (by omega)).1.2 ht]
    rfl
  · rw [decide_eq_false (by omega : ¬ ((out.length : Nat) : Int) > 0)]; rfl
theorem Mv.bef (M : Mv P D eqf same red σ φ) {L out : List (U α)} (hL : ∀ x ∈ L, Pu P D x) (ho : ∀ x ∈ out, Pu P D x) {x : Nat} (hx : x < L.length) : pu (L.map (mU σ φ)) (out.map (mU σ φ)) x = pu L out x := by
  unfold pu
  rw [List.length_map, ko _ hx]
  by_cases h : 0 < out.length
  · have hp := m9 ho (by omega : out.length - 1 < out.length)
    rw [ko _ (by omega)]
    show ((_ && decide (σ (gt out (out.length - 1)).iv.hi = σ (gt L x).iv.lo)) && !(aH (mV σ (gt out (out.length - 1)).iv))) = _
    rw [M.dec hp.1.2 (m9 hL hx).1.1, M.inst hp.1]
  · rw [decide_eq_false (by omega : ¬ ((out.length : Nat) : Int) > 0)]; rfl
omit [Inhabited α] in
theorem sX {out : List (U α)} (ho : ∀ x ∈ out, Pu P D x) {y : U α} (hy : Pu P D y) : ∀ x ∈ out ++ [y], Pu P D x := fun x hx => by
  rcases List.mem_append.1 hx with hx | hx
  · exact ho x hx
  · rw [List.mem_singleton.1 hx]; exact hy
omit [Inhabited α] in
theorem pu_set {out : List (U α)} (ho : ∀ x ∈ out, Pu P D x) {i : Nat} {y : U α} (hy : Pu P D y) : ∀ x ∈ out.set i y, Pu P D x := fun x hx => by
  rcases List.mem_or_eq_of_mem_set hx with hx | rfl
  · exact ho x hx
  · exact hy
theorem Mv.gap (M : Mv P D eqf same red σ φ) {L out : List (U α)} (hL : ∀ x ∈ L, Pu P D x) (ho : ∀ x ∈ out, Pu P D x) {x : Nat} (hx : x < L.length) :
    gM (L.map (mU σ φ)) (out.map (mU σ φ)) x = (gM L out x).map (mU σ φ) ∧ ∀ y ∈ gM L out x, Pu P D y := by
  have h1 := m9 hL hx
  have h2 := m9 hL (by omega : x - 1 < L.length)
  unfold gM
  rw [ko _ hx, ko _ (by omega : x - 1 < L.length)]
  have e : ((((decide (((x : Nat) : Int) > 0)) && (aH ((mU σ φ (gt L (x - 1))).iv))) && (decide (((mU σ φ (gt L (x - 1))).iv).lo = ((mU σ φ (gt L x)).iv).lo))) && (!(ij (out.map (mU σ φ)) (((mU σ φ (gt L x)).iv).lo))))
      = ((((decide (((x : Nat) : Int) > 0)) && (aH ((gt L (x - 1)).iv))) && (decide (((gt L (x - 1)).iv).lo = ((gt L x).iv).lo))) && (!(ij out (((gt L x).iv).lo)))) := by
    show ((((decide (((x : Nat) : Int) > 0)) && (aH (mV σ (gt L (x - 1)).iv))) && (decide (σ ((gt L (x - 1)).iv).lo = σ ((gt L x).iv).lo))) && (!(ij (out.map (mU σ φ)) (σ ((gt L x).iv).lo)))) = _
    rw [M.inst h2.1, M.dec h2.1.1 h1.1.1, M.held ho h1.1.1]
  rw [e]
  cases ((((decide (((x : Nat) : Int) > 0)) && (aH ((gt L (x - 1)).iv))) && (decide (((gt L (x - 1)).iv).lo = ((gt L x).iv).lo))) && (!(ij out (((gt L x).iv).lo))))
  · exact ⟨by rw [cond_false, cond_false, List.map_append]; rfl, by rw [cond_false]; exact sX ho h1⟩
  · exact ⟨by rw [cond_true, cond_true, List.map_append]; rfl, by rw [cond_true]; exact sX ho h1⟩
theorem Mv.pt (M : Mv P D eqf same red σ φ) {L out : List (U α)} (hL : ∀ x ∈ L, Pu P D x) (ho : ∀ x ∈ out, Pu P D x) {x : Nat} (hx : x < L.length) :
    jd same red (L.map (mU σ φ)) (out.map (mU σ φ)) x = (jd same red L out x).map (mU σ φ) ∧ ∀ y ∈ jd same red L out x, Pu P D y := by
  have h1 := m9 hL hx
  unfold jd
  rw [ko _ hx, List.length_map]
  have e : (((decide (((x + 1 : Nat) : Int) < ((L.length : Nat) : Int))) && (decide (((gt (L.map (mU σ φ)) (x + 1)).iv).lo = ((mU σ φ (gt L x)).iv).lo))) && (same ((gt (L.map (mU σ φ)) (x + 1)).f) ((mU σ φ (gt L x)).f) (((mU σ φ (gt L x)).iv).lo)))
      = (((decide (((x + 1 : Nat) : Int) < ((L.length : Nat) : Int))) && (decide (((gt L (x + 1)).iv).lo = ((gt L x).iv).lo))) && (same ((gt L (x + 1)).f) ((gt L x).f) (((gt L x).iv).lo))) := by
    by_cases h : x + 1 < L.length
    · have h2 := m9 hL h
      rw [ko _ h]
      show ((_ && (decide (σ ((gt L (x + 1)).iv).lo = σ ((gt L x).iv).lo))) && (same (φ (gt L (x + 1)).f) (φ (gt L x).f) (σ (gt L x).iv.lo))) = _
      rw [M.dec h2.1.1 h1.1.1, M.sm _ _ _ h2.2 h1.2 h1.1.1]
    · rw [decide_eq_false (by omega : ¬ ((x + 1 : Nat) : Int) < ((L.length : Nat) : Int))]; rfl
  rw [e]
  cases (((decide (((x + 1 : Nat) : Int) < ((L.length : Nat) : Int))) && (decide (((gt L (x + 1)).iv).lo = ((gt L x).iv).lo))) && (same ((gt L (x + 1)).f) ((gt L x).f) (((gt L x).iv).lo)))
  · refine ⟨?_, by rw [cond_false]; exact sX ho ⟨h1.1, M.rD _ _ h1.2 h1.1.1⟩⟩
    rw [cond_false, cond_false, List.map_append]
    show _ ++ [(⟨mV σ (gt L x).iv, red (φ (gt L x).f) (σ (gt L x).iv.lo)⟩ : U α)] = _
    rw [M.rd _ _ h1.2 h1.1.1]
    rfl
  · exact ⟨rfl, ho⟩
theorem Mv.step (M : Mv P D eqf same red σ φ) {L out : List (U α)} (hL : ∀ x ∈ L, Pu P D x) (ho : ∀ x ∈ out, Pu P D x) {x : Nat} (hx : x < L.length) :
    dT eqf same red (L.map (mU σ φ)) (out.map (mU σ φ)) x = (dT eqf same red L out x).map (mU σ φ) ∧ ∀ y ∈ dT eqf same red L out x, Pu P D y := by
  have h1 := m9 hL hx
  obtain ⟨g1, g2⟩ := M.gap hL ho hx
  obtain ⟨p1, p2⟩ := M.pt hL ho hx
  unfold dT
  rw [M.bef hL ho hx, ko _ hx, g1, p1, List.length_map]
  have ei : aH (mU σ φ (gt L x)).iv = aH (gt L x).iv := M.inst h1.1
  rw [ei]
  cases hb : pu L out x with
  | false =>
    rw [cond_false, cond_false]
    cases (!(aH ((gt L x).iv)))
    · exact ⟨rfl, p2⟩
    · exact ⟨rfl, g2⟩
  | true =>
    obtain ⟨b1, _, _⟩ := hH.1 hb
    have ho1 := m9 ho (by omega : out.length - 1 < out.length)
    rw [ko _ (by omega : out.length - 1 < out.length), cond_true, cond_true]
    cases (!(aH ((gt L x).iv)))
    · rw [cond_false, cond_false]
      show (bif (same (φ (gt out (out.length - 1)).f) (φ (gt L x).f) (σ (gt L x).iv.lo)) then _ else _) = _ ∧ _
      rw [M.sm _ _ _ ho1.2 h1.2 h1.1.1]
      cases same (gt out (out.length - 1)).f (gt L x).f (gt L x).iv.lo
      · exact ⟨rfl, p2⟩
      · refine ⟨?_, ?_⟩
        · rw [cond_true, cond_true, List.map_set]; rfl
        · rw [cond_true]; exact pu_set ho ho1
    · rw [cond_true, cond_true]
      show (bif ((!(gt out (out.length - 1)).iv.openHi) && (eqf (φ (gt out (out.length - 1)).f) (φ (gt L x).f))) then _ else _) = _ ∧ _
      rw [M.eq _ _ ho1.2 h1.2]
      cases ((!(gt out (out.length - 1)).iv.openHi) && (eqf (gt out (out.length - 1)).f (gt L x).f))
      · exact ⟨rfl, g2⟩
      · refine ⟨?_, ?_⟩
        · rw [cond_true, cond_true, List.map_set]; rfl
        · rw [cond_true]; exact pu_set ho ⟨⟨ho1.1.1, h1.1.2⟩, ho1.2⟩
omit [Inhabited α] in
theorem Mv.at1 (M : Mv P D eqf same red σ φ) {u : U α} (h : Pu P D u) : atU (mU σ φ u) = (atU u).map (mU σ φ) ∧ ∀ y ∈ atU u, Pu P D y := by
  unfold atU
  rw [show aH (mU σ φ u).iv = aH u.iv from M.inst h.1]
  have e1 : (mU σ φ u).iv.openLo = u.iv.openLo := rfl
  have e2 : (mU σ φ u).iv.openHi = u.iv.openHi := rfl
  rw [e1, e2]
  obtain ⟨⟨a, b⟩, c⟩ := h
  cases u.iv.openLo <;> cases aH u.iv <;> cases u.iv.openHi <;>
    exact ⟨rfl, fun y hy => by
      simp only [cond_true, cond_false, List.mem_append, List.mem_cons, List.not_mem_nil, or_false, false_or] at hy <;> first
        | (rcases hy with rfl | rfl | rfl <;> first | exact ⟨⟨a, a⟩, c⟩ | exact ⟨⟨b, b⟩, c⟩ | exact ⟨⟨a, b⟩, c⟩)
        | (rcases hy with rfl | rfl <;> first | exact ⟨⟨a, a⟩, c⟩ | exact ⟨⟨b, b⟩, c⟩ | exact ⟨⟨a, b⟩, c⟩)
        | (rcases hy with rfl <;> first | exact ⟨⟨a, a⟩, c⟩ | exact ⟨⟨b, b⟩, c⟩ | exact ⟨⟨a, b⟩, c⟩)⟩
omit [Inhabited α] in
theorem Mv.ats (M : Mv P D eqf same red σ φ) : ∀ {n : List (U α)}, (∀ x ∈ n, Pu P D x) → (n.map (mU σ φ)).flatMap atU = (n.flatMap atU).map (mU σ φ) ∧ ∀ y ∈ n.flatMap atU, Pu P D y
  | [], _ => ⟨rfl, fun _ h => by cases h⟩
  | u :: n, h => by
    obtain ⟨e1, e2⟩ := M.at1 (h u (List.mem_cons_self ..))
    obtain ⟨e3, e4⟩ := M.ats (n := n) fun x hx => h x (List.mem_cons_of_mem _ hx)
    refine ⟨?_, fun y hy => ?_⟩
    · rw [List.map_cons, List.flatMap_cons, List.flatMap_cons, List.map_append, e1, e3]
    · rw [List.flatMap_cons] at hy
      rcases List.mem_append.1 hy with hy | hy
      · exact e2 y hy
      · exact e4 y hy
end
section
variable {α β : Type} [Inhabited α] {c : α → α → Int} {c' : β → β → Int} {m : α → β} {S : α → Prop}
omit [Inhabited α] in
omit [Inhabited α] in
end
structure MvV (h : GQ) (p : Pnt) (f g : Ln) : Prop where
  ok : LOk g
  x0 : ba g.x0 = ba f.x0 - ba h * ba f.x1 + ba p.x
  x1 : g.x1 = f.x1
  y0 : ba g.y0 = ba f.y0 - ba h * ba f.y1 + ba p.y
  y1 : g.y1 = f.y1
theorem MvV.uniq {h : GQ} {p : Pnt} {f g k : Ln} (a : MvV h p f g) (b : MvV h p f k) : g = k :=
  Ln.ext4 (dq a.ok.1 b.ok.1 (by rw [a.x0, b.x0])) (a.x1.trans b.x1.symm) (dq a.ok.2.2.1 b.ok.2.2.1 (by rw [a.y0, b.y0])) (a.y1.trans b.y1.symm)
section
variable [K : Key]
end
end Go.Sx
namespace Go.Sx
def p0 : Pnt := ⟨zQ, zQ⟩
section
variable [K : Key] [KeyB]
end
end Go.Sx
namespace Go.Sx
open Go Go.RowKit Go.Proofs
set_option maxRecDepth 100000
set_option maxHeartbeats 40000000
attribute [local irreducible] Code.wp wpList Rd Step ObS Ent
attribute [local irreducible] ar aO am au aA bG ao aM
attribute [local irreducible] aN aT ak ax aU aj aY dN kw bN aw
theorem sh27X : Sh Tryz.prog 27 XQ vXQ := ⟨trivial⟩
theorem sh25Y : Sh Tryz.prog 25 XI vXI := ⟨trivial⟩
section
attribute [local instance 2000] sh27X sh25Y
end
end Go.Sx
namespace Go.Sx
open Go Go.RowKit Go.Proofs
set_option maxRecDepth 100000
set_option maxHeartbeats 40000000
attribute [local irreducible] Code.wp wpList Rd Step ObS Ent
attribute [local irreducible] ar aO am au aA bG ao aM
attribute [local irreducible] aN aT ak ax aU aj aY dN kw bN aw
theorem bld29' : Bu Tryz.prog 29 [] [] (vPt ⟨oQ, oQ⟩) := Bu.of bld29 rfl rfl
theorem bld27' : Bu Tryz.prog 27 [] [] (vQ oQ) := Bu.of lj rfl rfl
attribute [local instance] bld29' bld27'
end Go.Sx
namespace Go.Sx
open Go Go.RowKit Go.Proofs
set_option maxRecDepth 100000
set_option maxHeartbeats 40000000
attribute [local irreducible] Code.wp wpList Rd Step ObS Ent
attribute [local irreducible] ar aO am au aA bG ao
attribute [local irreducible] aN aT ak ax aU aj aY dN kw
def plAdd (p q : Pnt) : Pnt := ⟨ax p.x q.x, ax p.y q.y⟩
def plSub (p q : Pnt) : Pnt := ⟨aj p.x q.x, aj p.y q.y⟩
def tb (p : Pnt) (r : GQ) : Pnt := ⟨ak p.x r, ak p.y r⟩
def gC (a b : Pnt) (r : GQ) : Pnt := plAdd a (tb (plSub b a) r)
instance yC6_44 : Cf Tryz.prog 104 := ⟨Tryz.call104⟩
instance yC6_45 : Cf Tryz.prog 105 := ⟨Tryz.call105⟩
instance yC6_46 : Cf Tryz.prog 106 := ⟨Tryz.call106⟩
instance yC6_47 : Sz Tryz.prog 47 16 := ⟨Tryz.sizeOf47⟩
instance yC6_48 : Ag Tryz.prog 47 true := ⟨Tryz.isAgg47⟩
instance yC6_49 : Fl Tryz.prog 47 0 29 0 := ⟨⟨_, _, uu47, rfl, rfl, rfl⟩⟩
instance yC6_50 : Fl Tryz.prog 47 1 29 8 := ⟨⟨_, _, uu47, rfl, rfl, rfl⟩⟩
end Go.Sx
namespace Go.Sx
open Go Go.RowKit Go.Proofs
set_option maxRecDepth 100000
set_option maxHeartbeats 40000000
attribute [local irreducible] Code.wp wpList Rd Step ObS Ent
attribute [local irreducible] ar aO am au aA bG
def eW (u : U Ln) (t : GR) : Int :=
 (ar u.iv.hi t)
attribute [irreducible] eW
def rW (x : List (U Ln)) (target : GR) (i : Nat) (j : Nat) : Int × Bool :=
 (((i : Nat) : Int), ((decide (((i : Nat) : Int) < ((x.length : Nat) : Int))) && ((eW (gt x i) target) == 0)))
def fd (x : List (U Ln)) (target : GR) (i : Nat) (j : Nat) : Nx (Nat × Nat) (Int × Bool) :=
 bif (decide (((i : Nat) : Int) < ((j : Nat) : Int))) then
  bif (decide ((eW (gt x ((i + j) / 2)) target) < 0)) then
   .go ((((i + j) / 2) + 1), j)
  else
   .go (i, ((i + j) / 2))
 else
  .out (i, j)
def lW (x : List (U Ln)) (target : GR) : Int × Bool :=
 fin (bC (fun s => fd x target s.1 s.2) (x.length - 0 + 1) (0, x.length)) (fun s => rW x target s.1 s.2) (fun r => r)
attribute [irreducible] lW
def kC (l : List (U Ln)) (t : GR) (i : Nat) (mb2 : Ln) : Ln × Bool :=
 ((⟨(⟨(⟨false, 0⟩ : GI), (⟨false, 0⟩ : GI)⟩ : GQ), (⟨(⟨false, 0⟩ : GI), (⟨false, 0⟩ : GI)⟩ : GQ), (⟨(⟨false, 0⟩ : GI), (⟨false, 0⟩ : GI)⟩ : GQ), (⟨(⟨false, 0⟩ : GI), (⟨false, 0⟩ : GI)⟩ : GQ)⟩ : Ln), false)
def dZ (l : List (U Ln)) (t : GR) (i : Nat) (mb2 : Ln) : Nx (Nat × Ln) (Ln × Bool) :=
 bif (decide (((i : Nat) : Int) < ((l.length : Nat) : Int))) then
  bif (decide ((ar (((gt l i).iv).lo) t) > 0)) then
   .out (i, mb2)
  else
   bif (((decide ((ar (((gt l i).iv).lo) t) < 0)) || (!((gt l i).iv).openLo)) && ((!(decide (((gt l i).iv).hi = t))) || (!((gt l i).iv).openHi))) then
    .ret ((gt l i).f, true)
   else
    .go ((i + 1), mb2)
 else
  .out (i, mb2)
def eB (l : List (U Ln)) (t : GR) : Ln × Bool :=
 fin (bC (fun s => dZ l t s.1 s.2) ((l.length - (((lW l t).1).toNat)) + 1) (((lW l t).1).toNat, (⟨(⟨(⟨false, 0⟩ : GI), (⟨false, 0⟩ : GI)⟩ : GQ), (⟨(⟨false, 0⟩ : GI), (⟨false, 0⟩ : GI)⟩ : GQ), (⟨(⟨false, 0⟩ : GI), (⟨false, 0⟩ : GI)⟩ : GQ), (⟨(⟨false, 0⟩ : GI), (⟨false, 0⟩ : GI)⟩ : GQ)⟩ : Ln))) (fun s => kC l t s.1 s.2) (fun r => r)
attribute [irreducible] eB
end Go.Sx
namespace Go.Sx
open Go Go.RowKit Go.Proofs
set_option maxRecDepth 100000
set_option maxHeartbeats 40000000
attribute [local irreducible] Code.wp wpList Rd Step ObS Ent
attribute [local irreducible] ar aO am au aA bG ao
attribute [local irreducible] aN aT ak ax aU aj aY dN kw
def atRat (l : List (U Ln)) (t : GQ) : Pnt × Bool :=
 bif (eB l (ao t)).2 then (⟨aN (lxs (eB l (ao t)).1) t, aN (lys (eB l (ao t)).1) t⟩, true) else (⟨oQ, oQ⟩, false)
theorem bld29z : Bu Tryz.prog 29 [] [] (vPt ⟨oQ, oQ⟩) := Bu.of bld29 rfl rfl
attribute [local instance] bld29z
end Go.Sx
namespace Go.Sx
theorem scanL {T R : Type} {B : T → Nx T R} (st : Nat → T) {n : Nat} {brk hit : Nat → Bool} {r : Nat → R} {o : Nat → T}
    (h : ∀ i, i < n → B (st i) = bif brk i then .out (o i) else bif hit i then .ret (r i) else .go (st (i + 1))) (ho : B (st n) = .out (o n)) :
    ∀ k a, a ≤ n → n - a < k → ∃ b, a ≤ b ∧ b ≤ n ∧ (∀ j, a ≤ j → j < b → brk j = false ∧ hit j = false) ∧ ((b < n ∧ brk b = false ∧ hit b = true ∧ bC B k (st a) = .inr (r b)) ∨ ((b = n ∨ (b < n ∧ brk b = true)) ∧ bC B k (st a) = .inl (o b)))
  | k + 1, a, ha, hk => by
    by_cases e : a = n
    · subst e
      exact ⟨a, Nat.le_refl _, Nat.le_refl _, fun j h1 h2 => by omega, .inr ⟨.inl rfl, iJ k ho⟩⟩
    · have h1 := h a (by omega)
      cases hb : brk a with
      | true =>
        rw [hb, cond_true] at h1
        exact ⟨a, Nat.le_refl _, by omega, fun j h1 h2 => by omega, .inr ⟨.inr ⟨by omega, hb⟩, iJ k h1⟩⟩
      | false =>
        rw [hb, cond_false] at h1
        cases hh : hit a with
        | true =>
          rw [hh, cond_true] at h1
          exact ⟨a, Nat.le_refl _, by omega, fun j h1 h2 => by omega, .inl ⟨by omega, hb, hh, tF k h1⟩⟩
        | false =>
          rw [hh, cond_false] at h1
          obtain ⟨b, b1, b2, b3, b4⟩ := scanL st h ho k (a + 1) (by omega) (by omega)
          refine ⟨b, by omega, b2, fun j j1 j2 => ?_, ?_⟩
          · by_cases e2 : j = a
            · subst e2; exact ⟨hb, hh⟩
            · exact b3 j (by omega) j2
          · rw [jE k h1]; exact b4
theorem gtmL {β : Type} [Inhabited β] {l : List β} {i : Nat} (h : i < l.length) : gt l i ∈ l := by rw [gV h]; exact List.getElem_mem _
theorem memL {β : Type} [Inhabited β] {l : List β} {x : β} (h : x ∈ l) : ∃ i, i < l.length ∧ gt l i = x := by
  obtain ⟨i, hi, e⟩ := List.getElem_of_mem h
  exact ⟨i, hi, by rw [gV hi]; exact e⟩
section
variable [K : Key]
theorem nM {N : List (U Ln)} (hw : ∀ u ∈ N, Tv u.iv) {t : GR} (ht : Tm t) (hm : ∀ p q, p < q → q < N.length → tk (gt N p).iv.hi ≤ tk (gt N q).iv.hi) :
    ∀ k i j, j - i < k → i ≤ j → j ≤ N.length → (∀ p, p < i → tk (gt N p).iv.hi < tk t) → (∀ p, j ≤ p → p < N.length → tk t ≤ tk (gt N p).iv.hi) →
      ∃ m, m ≤ N.length ∧ bC (fun s => fd N t s.1 s.2) k (i, j) = .inl (m, m) ∧ (∀ p, p < m → tk (gt N p).iv.hi < tk t) ∧ (∀ p, m ≤ p → p < N.length → tk t ≤ tk (gt N p).iv.hi)
  | k + 1, i, j, hk, hij, hj, h1, h2 => by
    by_cases e : i < j
    · have hlt : (i + j) / 2 < N.length := by omega
      have hc : eW (gt N ((i + j) / 2)) t = sgn (tk (gt N ((i + j) / 2)).iv.hi) (tk t) := by
        unfold eW; exact (hw _ (gtmL hlt)).2.cmp ht
      by_cases hlt2 : tk (gt N ((i + j) / 2)).iv.hi < tk t
      · have hB : fd N t i j = .go (((i + j) / 2) + 1, j) := by
          unfold fd
          rw [decide_eq_true (by omega : ((i : Nat) : Int) < ((j : Nat) : Int)), hc, jh hlt2]; rfl
        rw [jE (B := fun s => fd N t s.1 s.2) k hB]
        refine nM hw ht hm k _ _ (by omega) (by omega) hj (fun p hp => ?_) h2
        by_cases e2 : p = (i + j) / 2
        · rw [e2]; exact hlt2
        · have := hm p ((i + j) / 2) (by omega) hlt
          omega
      · have hB : fd N t i j = .go (i, (i + j) / 2) := by
          unfold fd
          rw [decide_eq_true (by omega : ((i : Nat) : Int) < ((j : Nat) : Int)), hc]
          have : decide (sgn (tk (gt N ((i + j) / 2)).iv.hi) (tk t) < 0) = false := by
            rcases Nat.lt_or_eq_of_le (Nat.le_of_not_lt hlt2) with h3 | h3
            · rw [jJ h3]; rfl
            · rw [h3, g8]; rfl
          rw [this]; rfl
        rw [jE (B := fun s => fd N t s.1 s.2) k hB]
        refine nM hw ht hm k _ _ (by omega) (by omega) (by omega) h1 (fun p hp hp2 => ?_)
        by_cases e2 : p = (i + j) / 2
        · rw [e2]; omega
        · have := hm ((i + j) / 2) p (by omega) hp2
          omega
    · have hB : fd N t i j = .out (i, j) := by
        unfold fd
        rw [decide_eq_false (by omega : ¬ ((i : Nat) : Int) < ((j : Nat) : Int))]; rfl
      have e3 : i = j := by omega
      subst e3
      exact ⟨i, hj, iJ k hB, h1, h2⟩
theorem ordL {N : List (U Ln)} (ho : N.Pairwise fun a b => dU a.iv < (d8 b.iv : Int)) {p q : Nat} (h : p < q) (hq : q < N.length) : dU (gt N p).iv < (d8 (gt N q).iv : Int) := by
  have := List.pairwise_iff_getElem.1 ho p q (by omega) hq h
  rw [gV (by omega), gV hq]; exact this
theorem AtL_spec {N : List (U Ln)} (hw : ∀ u ∈ N, Wv u.iv) (ho : N.Pairwise fun a b => dU a.iv < (d8 b.iv : Int)) {t : GR} (ht : Tm t) :
    (∃ u ∈ N, inU u.iv (2 * tk t) ∧ eB N t = (u.f, true)) ∨ ((∀ u ∈ N, ¬ inU u.iv (2 * tk t)) ∧ (eB N t).2 = false) := by
  have par : ∀ i : Iv, (d8 i = 2 * tk i.lo ∧ i.openLo = false ∨ d8 i = 2 * tk i.lo + 1 ∧ i.openLo = true) ∧ (dU i = 2 * (tk i.hi : Int) ∧ i.openHi = false ∨ dU i = 2 * (tk i.hi : Int) - 1 ∧ i.openHi = true) := fun i => by
    rcases gp i with ⟨a1, a2⟩ | ⟨a1, a2⟩ <;> rcases jU i with ⟨b1, b2⟩ | ⟨b1, b2⟩ <;> simp [a1, a2, b1, b2]
  have hm : ∀ p q, p < q → q < N.length → tk (gt N p).iv.hi ≤ tk (gt N q).iv.hi := fun p q h hq => by
    have h1 := ordL ho h hq
    have h2 := (hw _ (gtmL hq)).le
    have := par (gt N p).iv
    have := par (gt N q).iv
    omega
  have hm2 : ∀ p q, p < q → q < N.length → tk (gt N p).iv.lo ≤ tk (gt N q).iv.lo := fun p q h hq => by
    have h1 := ordL ho h hq
    have h2 := (hw _ (gtmL (by omega : p < N.length))).le
    have := par (gt N p).iv
    have := par (gt N q).iv
    omega
  obtain ⟨m, hmn, hl, i1, i2⟩ := nM (fun u hu => (hw u hu).1) ht hm (N.length - 0 + 1) 0 N.length (by omega) (Nat.zero_le _) (Nat.le_refl _) (fun p hp => by omega) (fun p h1 h2 => by omega)
  have hbs : (lW N t).1 = (m : Int) := by
    unfold lW
    rw [iw hl]; rfl
  unfold eB
  rw [hbs, Int.toNat_natCast]
  generalize (⟨(⟨(⟨false, 0⟩ : GI), (⟨false, 0⟩ : GI)⟩ : GQ), (⟨(⟨false, 0⟩ : GI), (⟨false, 0⟩ : GI)⟩ : GQ), (⟨(⟨false, 0⟩ : GI), (⟨false, 0⟩ : GI)⟩ : GQ), (⟨(⟨false, 0⟩ : GI), (⟨false, 0⟩ : GI)⟩ : GQ)⟩ : Ln) = z
  obtain ⟨b, b1, b2, b3, b4⟩ := scanL (B := fun s => dZ N t s.1 s.2) (fun i => (i, z)) (n := N.length) (brk := fun i => decide ((ar (((gt N i).iv).lo) t) > 0))
    (hit := fun i => ((decide ((ar (((gt N i).iv).lo) t) < 0)) || (!((gt N i).iv).openLo)) && ((!(decide (((gt N i).iv).hi = t))) || (!((gt N i).iv).openHi))) (r := fun i => ((gt N i).f, true)) (o := fun i => (i, z))
    (fun i hi => by
      show dZ N t i z = _
      unfold dZ
      rw [decide_eq_true (by omega : ((i : Nat) : Int) < ((N.length : Nat) : Int))]; rfl)
    (by
      show dZ N t N.length z = _
      unfold dZ
      rw [decide_eq_false (by omega : ¬ ((N.length : Nat) : Int) < ((N.length : Nat) : Int))]; rfl) (N.length - m + 1) m hmn (by omega)
  have hk : ∀ i, i < N.length → m ≤ i → decide ((ar (((gt N i).iv).lo) t) > 0) = false →
      ((((decide ((ar (((gt N i).iv).lo) t) < 0)) || (!((gt N i).iv).openLo)) && ((!(decide (((gt N i).iv).hi = t))) || (!((gt N i).iv).openHi))) = true ↔ inU (gt N i).iv (2 * tk t)) := fun i hi hmi hb => by
    have hv := (hw _ (gtmL hi)).1
    rw [hv.1.cmp ht] at hb ⊢
    have h2 := i2 i hmi hi
    have hp := par (gt N i).iv
    have he : decide ((gt N i).iv.hi = t) = decide (tk (gt N i).iv.hi = tk t) := decide_eq_decide.2 (hv.2.inj ht).symm
    rw [he]
    unfold inU
    rcases Nat.lt_trichotomy (tk (gt N i).iv.lo) (tk t) with h1 | h1 | h1
    · rw [jh h1]
      rcases hp with ⟨hp1 | hp1, hp2 | hp2⟩ <;> simp [hp1.1, hp1.2, hp2.1, hp2.2] <;> omega
    · rw [h1, g8]
      rcases hp with ⟨hp1 | hp1, hp2 | hp2⟩ <;> simp [hp1.1, hp1.2, hp2.1, hp2.2] <;> omega
    · rw [jJ h1] at hb; cases hb
  rcases b4 with ⟨c1, c2, c3, c4⟩ | ⟨c1, c2⟩
  · exact .inl ⟨gt N b, gtmL c1, (hk b c1 b1 c2).1 c3, fin_r c4⟩
  · right
    refine ⟨fun u hu hi => ?_, by rw [iw c2]; rfl⟩
    obtain ⟨i, hi2, rfl⟩ := memL hu
    have hp := par (gt N i).iv
    have hi1 := hi.1
    have hi3 := hi.2
    by_cases e1 : i < m
    · have := i1 i e1
      omega
    · by_cases e2 : i < b
      · obtain ⟨d1, d2⟩ := b3 i (by omega) e2
        rw [(hk i hi2 (by omega) d1).2 hi] at d2; cases d2
      · rcases c1 with c1 | ⟨c1, c3⟩
        · omega
        · have hv := (hw _ (gtmL c1)).1
          rw [hv.1.cmp ht] at c3
          have h3 : tk t < tk (gt N b).iv.lo := by
            rcases Nat.lt_trichotomy (tk (gt N b).iv.lo) (tk t) with h1 | h1 | h1
            · rw [jh h1] at c3; cases c3
            · rw [h1, g8] at c3; cases c3
            · exact h1
          by_cases e3 : i = b
          · subst e3; omega
          · have := hm2 b i (by omega) hi2
            omega
end
end Go.Sx
namespace Go.Sx
theorem kq0 : (default : GR) = ao (am 0) := by
  have e : aw 0 = ⟨false, 0⟩ := qQ (jH 0) (fun _ => rfl) (by rw [gw]; rfl)
  have h : am 0 = ⟨⟨false, 0⟩, ⟨false, 0⟩⟩ := by unfold am; rw [e]
  rw [h]
  unfold ao
  rfl
def kqL (qs : List GQ) : List GR := default :: qs.map ao
theorem kqL_mem {qs : List GQ} {x : GR} (h : x ∈ kqL qs) : x = ao (am 0) ∨ ∃ q ∈ qs, x = ao q := by
  unfold kqL at h
  rcases List.mem_cons.1 h with h | h
  · exact .inl (h.trans kq0)
  · obtain ⟨q, hq, rfl⟩ := List.mem_map.1 h; exact .inr ⟨q, hq, rfl⟩
theorem kq_is {qs : List GQ} (hb : ∀ q ∈ qs, Bq 200 q) {x : GR} (h : x ∈ kqL qs) : ∃ q, Bq 200 q ∧ x = ao q := by
  rcases kqL_mem h with rfl | ⟨q, hq, rfl⟩
  · exact ⟨_, Bq.int 0 (by decide) (by decide), rfl⟩
  · exact ⟨q, hb q hq, rfl⟩
abbrev keyQ (qs : List GQ) (hb : ∀ q ∈ qs, Bq 200 q) (hn : qs.length < 1000) : Key where
  l := kqL qs
  ok := fun x h => by obtain ⟨q, k, rfl⟩ := kq_is hb h; exact fr_ok k.1
  sz := by unfold kqL; simp; omega
  z := by unfold kqL; simp
  rt := fun x h => by obtain ⟨q, k, rfl⟩ := kq_is hb h; unfold RtR; rw [(qY _).2.1]; exact ⟨by decide, rfl⟩
  szr := fun x h => by
    obtain ⟨q, k, rfl⟩ := kq_is hb h
    exact ⟨by rw [(qY q).1]; exact cv (k.sz (by decide)) (by decide), by rw [(qY q).2.1]; exact cv ((Bq.zero (m := 1) (by decide)).sz (by decide)) (by decide)⟩
theorem tm_kq {qs : List GQ} {hb : ∀ q ∈ qs, Bq 200 q} {hn : qs.length < 1000} {x : GR} : @Tm (keyQ qs hb hn) x ↔ x ∈ kqL qs := by
  letI := keyQ qs hb hn
  rw [← Tm.iff, decide_eq_true_iff]; rfl
class KeyR [K : Key] : Prop where
  r : ∀ t : GR, Tm t → ∃ q, Bq 200 q ∧ t = ao q
theorem kqR (qs : List GQ) (hb : ∀ q ∈ qs, Bq 200 q) (hn : qs.length < 1000) : @KeyR (keyQ qs hb hn) := @KeyR.mk (keyQ qs hb hn) fun t ht => kq_is hb (tm_kq.1 ht)
theorem tm_kq' {qs : List GQ} {hb : ∀ q ∈ qs, Bq 200 q} {hn : qs.length < 1000} {q : GQ} (h : q ∈ qs) : @Tm (keyQ qs hb hn) (ao q) := tm_kq.2 (List.mem_cons_of_mem _ (List.mem_map_of_mem h))
theorem Bq.div {m n : Nat} {a b q : GQ} (ha : Bq m a) (hb : Bq n b) (hq : QOk q) (h0 : ba b ≠ 0) (e : ba q = ba a / ba b) : Bq (m + n) q := by
  obtain ⟨oa, x, y, y0, y1, x1, f⟩ := ha
  obtain ⟨ob, z, w, w0, w1, z1, g⟩ := hb
  have hz : z ≠ 0 := fun h => h0 (by rw [g, h]; have := ik w0; push_cast; grind)
  have hN := Nat.pow_pos (n := n) (show 0 < 2 by decide)
  have hza : 0 < z.natAbs := Int.natAbs_pos.2 hz
  refine ⟨hq, x * w * z.sign, y * z.natAbs, Nat.mul_pos y0 hza, ?_, ?_, ?_⟩
  · rw [pw]; exact Nat.mul_lt_mul_of_lt_of_le y1 (Nat.le_of_lt z1) hN
  · rw [pw, Int.natAbs_mul, Int.natAbs_mul, Int.natAbs_sign_of_ne_zero hz, Nat.mul_one]
    exact Nat.mul_lt_mul_of_lt_of_le x1 (Nat.le_of_lt w1) hN
  · rw [e, f, g]
    have h1 := ik y0
    have h2 := ik w0
    have h3 : (z : Rat) ≠ 0 := fun h => hz (by exact_mod_cast h)
    have h4 := ik hza
    have h5 : ((z.natAbs : Nat) : Rat) = (z.sign : Rat) * (z : Rat) := by
      have : ((z.natAbs : Nat) : Int) = z.sign * z := by
        rcases Int.lt_or_gt_of_ne hz with h | h
        · rw [Int.sign_eq_neg_one_of_neg h]; omega
        · rw [Int.sign_eq_one_of_pos h]; omega
      have h6 : (((z.natAbs : Nat) : Int) : Rat) = ((z.sign * z : Int) : Rat) := by rw [this]
      push_cast at h6 ⊢
      exact h6
    have h7 : (z.sign : Rat) * (z.sign : Rat) = 1 := by
      rcases Int.lt_or_gt_of_ne hz with h | h
      · rw [Int.sign_eq_neg_one_of_neg h]; decide +kernel
      · rw [Int.sign_eq_one_of_pos h]; decide +kernel
    push_cast
    rw [h5] at h4 ⊢
    grind
def SOk (a : Smp) : Prop := Bq 64 a.t ∧ Bq 64 a.p.x ∧ Bq 64 a.p.y
theorem SOk.q {a : Smp} (h : SOk a) : QOk a.t ∧ QOk a.p.x ∧ QOk a.p.y := ⟨h.1.1, h.2.1.1, h.2.2.1⟩
theorem thr_sl {v w t u s c : GQ} (hv : Bq 64 v) (hw : Bq 64 w) (ht : Bq 64 t) (hu : Bq 64 u) (hs : QOk s) (hc : QOk c) (h : ba t ≠ ba u)
    (e : ba s = (ba w - ba v) / (ba u - ba t)) (f : ba c = ba v - (ba w - ba v) / (ba u - ba t) * ba t) : Bq 258 s ∧ Bq 390 c := by
  have h1 : Bq 258 s := Bq.div (hw.sub hv) (hu.sub ht) hs (by rw [(fG hu.1 ht.1).2]; grind) (by rw [e, (fG hw.1 hv.1).2, (fG hu.1 ht.1).2])
  refine ⟨h1, ?_⟩
  have k := (hv.sub (h1.mul ht)).le (show 64 + (258 + 64) + 1 ≤ 390 by decide)
  have : c = aj v (ak s t) := dq hc k.1 (by rw [f, (fG hv.1 (fi hs ht.1).1).2, (fi hs ht.1).2, e])
  rw [this]; exact k
theorem thr_bl {a b : Smp} (ha : SOk a) (hb : SOk b) (h : ba a.t ≠ ba b.t) : BL 390 (dN a b) := by
  obtain ⟨⟨o1, o2, o3, o4⟩, e1, e2, e3, e4⟩ := ku ha.q hb.q h
  obtain ⟨s1, c1⟩ := thr_sl ha.2.1 hb.2.1 ha.1 hb.1 o2 o1 h e1 e2
  obtain ⟨s2, c2⟩ := thr_sl ha.2.2 hb.2.2 ha.1 hb.1 o4 o3 h e3 e4
  exact ⟨c1, s1.le (by decide), c2, s2.le (by decide)⟩
abbrev DSm (f : Ln) : Prop := DL 390 1000 f
theorem le_pwm {n m k : Nat} (h : n < 2 ^ m) (hk : m ≤ 8 * k) : (le n).length ≤ k := by
  refine (ch k n).2 (Nat.lt_of_lt_of_le h ?_)
  rw [show (256 : Nat) = 2 ^ 8 from rfl, ← Nat.pow_mul]
  exact Nat.pow_le_pow_right (by decide) hk
theorem Bq.szk {m : Nat} {q : GQ} (h : Bq m q) (k : Nat) (hk : m ≤ 8 * k) {j : Nat} (hj : k * 2 ^ j ≤ 70368744177664) : SzQ j q :=
  ⟨Nat.le_trans (Nat.mul_le_mul_right _ (le_pwm h.mag.1 hk)) hj, Nat.le_trans (Nat.mul_le_mul_right _ (le_pwm h.mag.2 hk)) hj⟩
theorem DSm.sz {f : Ln} (h : DSm f) : SzN 30 f := by
  obtain ⟨a, b, c, d⟩ := h.bl (by decide)
  exact ⟨a.szk 125 (by decide) (by decide), b.szk 125 (by decide) (by decide), c.szk 125 (by decide) (by decide), d.szk 125 (by decide) (by decide)⟩
def ptQ (n : Nat) : GQ := (ca (aw (n : Int)) (aw 8)).1
theorem ptQ_ok (n : Nat) : QOk (ptQ n) ∧ ba (ptQ n) = ((n : Int) : Rat) / 8 := by
  have := tC (n := aw (n : Int)) (d := aw 8) (jH _) (by rw [gw]; decide)
  rw [gw, gw] at this
  exact this
theorem ptQ_bq {n : Nat} (h : n < 16) : Bq 4 (ptQ n) := Bq.of (ptQ_ok n).1 n 8 (by decide) (by decide) (by omega) (ptQ_ok n).2
def tdv (a b : Smp) (r : GQ) : GQ := ax a.t (ak r (aj b.t a.t))
theorem tdv_bq {a b : Smp} {r : GQ} (ha : Bq 64 a.t) (hb : Bq 64 b.t) (hr : Bq 4 r) : Bq 200 (tdv a b r) := (ha.add (hr.mul (hb.sub ha))).le (by decide)
theorem sg {a b : Smp} {r : GQ} (ha : QOk a.t) (hb : QOk b.t) (hr : QOk r) : ba (tdv a b r) = ba a.t + ba r * (ba b.t - ba a.t) := by
  unfold tdv
  rw [(im ha (fi hr (fG hb ha).1).1).2, (fi hr (fG hb ha).1).2, (fG hb ha).2]
theorem lJ {a b : Pnt} {r : GQ} (ha : QOk a.x ∧ QOk a.y) (hb : QOk b.x ∧ QOk b.y) (hr : QOk r) :
    (QOk (gC a b r).x ∧ QOk (gC a b r).y) ∧ ba (gC a b r).x = ba a.x + (ba b.x - ba a.x) * ba r ∧ ba (gC a b r).y = ba a.y + (ba b.y - ba a.y) * ba r := by
  unfold gC plAdd tb plSub
  dsimp only
  obtain ⟨x1, x2⟩ := fG hb.1 ha.1
  obtain ⟨x3, x4⟩ := fi x1 hr
  obtain ⟨x5, x6⟩ := im ha.1 x3
  obtain ⟨y1, y2⟩ := fG hb.2 ha.2
  obtain ⟨y3, y4⟩ := fi y1 hr
  obtain ⟨y5, y6⟩ := im ha.2 y3
  exact ⟨⟨x5, y5⟩, by rw [x6, x4, x2], by rw [y6, y4, y2]⟩
theorem thr_lv {a b : Smp} (ha : SOk a) (hb : SOk b) (h : ba a.t ≠ ba b.t) (q : GQ) :
    lvN (ao q) (dN a b) = ((ba a.p.x + (ba q - ba a.t) * ((ba b.p.x - ba a.p.x) / (ba b.t - ba a.t)), 0), (ba a.p.y + (ba q - ba a.t) * ((ba b.p.y - ba a.p.y) / (ba b.t - ba a.t)), 0)) := by
  obtain ⟨o, e1, e2, e3, e4⟩ := ku ha.q hb.q h
  obtain ⟨x, xa, xb, xc⟩ := o.X
  obtain ⟨y, ya, yb, yc⟩ := o.Y
  unfold lvN lv
  rw [if_pos (qY q).2.1, if_pos (qY q).2.1, (qY q).1, xa, xb, xc, ya, yb, yc, e1, e2, e3, e4, it.2]
  exact Prod.ext (Prod.ext (by dsimp only; grind) rfl) (Prod.ext (by dsimp only; grind) rfl)
section
variable [K : Key] [KR : KeyR]
theorem dkS : Dk DSm where
  ru := lines_ru (m := 390) (M := 1000) (n := 200) (fun t ht => by obtain ⟨q, k, rfl⟩ := KR.r t ht; rw [(qY q).1]; exact k) (by decide) (by decide)
  ok := fun f h => h.ok
structure Ups (l : List Smp) : Prop where
  ok : ∀ i, i < l.length → SOk (gt l i)
  tm : ∀ i, i < l.length → Tm (ao (gt l i).t)
  up : ∀ i, i + 1 < l.length → ba (gt l i).t < ba (gt l (i + 1)).t
variable {l : List Smp}
omit KR in
theorem Ups.lt (h : Ups l) : ∀ {i j : Nat}, i < j → j < l.length → ba (gt l i).t < ba (gt l j).t
  | i, j + 1, hij, hj => by
    have h1 := h.up j hj
    by_cases e : i = j
    · rw [e]; exact h1
    · have := Ups.lt h (show i < j by omega) (by omega)
      grind
omit K KR in
theorem rsg_neg {r : Rat} (h : r < 0) : rsg r = -1 := by unfold rsg; rw [if_pos h]
omit KR in
theorem tk_q {p q : GQ} (hp : QOk p) (hq : QOk q) (tp : Tm (ao p)) (tq : Tm (ao q)) (h : ba p < ba q) : tk (ao p) < tk (ao q) :=
  pE tp tq (by rw [fr_cmp hp hq, rsg_neg (by grind)])
omit KR in
theorem tk_q' {p q : GQ} (hp : QOk p) (hq : QOk q) (tp : Tm (ao p)) (tq : Tm (ao q)) (h : tk (ao p) < tk (ao q)) : ba p < ba q := by
  refine Classical.byContradiction fun e => ?_
  by_cases e2 : ba p = ba q
  · rw [dq hp hq e2] at h; omega
  · have := tk_q hq hp tq tp (by grind); omega
omit KR in
theorem Ups.tk (h : Ups l) {i j : Nat} (hij : i < j) (hj : j < l.length) : Go.Sx.tk (ao (gt l i).t) < Go.Sx.tk (ao (gt l j).t) :=
  tk_q (h.ok i (by omega)).1.1 (h.ok j hj).1.1 (h.tm i (by omega)) (h.tm j hj) (h.lt hij hj)
omit KR in
theorem Ups.tkle (h : Ups l) {i j : Nat} (hij : i ≤ j) (hj : j < l.length) : Go.Sx.tk (ao (gt l i).t) ≤ Go.Sx.tk (ao (gt l j).t) := by
  by_cases e : i = j
  · rw [e]; exact Nat.le_refl _
  · exact Nat.le_of_lt (h.tk (by omega) hj)
omit K KR in
theorem kK {n : Nat} {u : U Ln} (h : u ∈ frP l n) : ∃ i, i < n ∧ u = frF l i := by
  unfold frP at h
  obtain ⟨i, hi, rfl⟩ := List.mem_map.1 h
  exact ⟨i, List.mem_range.1 hi, rfl⟩
omit KR in
theorem Ups.wv (h : Ups l) {i : Nat} (hi : i + 1 < l.length) : Wv (frF l i).iv ∧ DSm (frF l i).f := by
  have h1 := h.tk (Nat.lt_succ_self i) hi
  refine ⟨⟨⟨h.tm i (by omega), h.tm (i + 1) hi⟩, Nat.le_of_lt h1, fun e => absurd e (Nat.ne_of_lt h1)⟩, .inl (thr_bl (h.ok i (by omega)) (h.ok (i + 1) hi) (by have := h.up i hi; grind))⟩
omit KR in
theorem Ups.dj (h : Ups l) : (frP l (l.length - 1)).Pairwise fun a b => Dj a.iv b.iv := by
  unfold frP
  refine List.pairwise_map.2 ((List.pairwise_lt_range (n := l.length - 1)).imp_of_mem fun {i j} hi hj hij => .inl ?_)
  have hj := List.mem_range.1 hj
  have h1 := h.tkle (show i + 1 ≤ j by omega) (by omega)
  unfold dU d8 frF
  simp only [cond_false, decide_eq_true (show 0 < j by omega), cond_true]
  omega
theorem Ups.normal (h : Ups l) : ∃ N, a7 (frP l (l.length - 1)) = (N, 0) ∧ NFL DSm (frP l (l.length - 1)) N :=
  dkS.normal (fun x hx => by obtain ⟨i, hi, rfl⟩ := kK hx; exact h.wv (i := i) (by omega)) h.dj
theorem Ups.one (h : Ups l) (h1 : l.length = 1) : a7 [frO l] = ([frO l], 0) := by
  have t0 := h.tm 0 (by omega)
  have o0 := h.ok 0 (by omega)
  have hd : DSm (frO l).f := .inl ⟨o0.2.1.le (by decide), Bq.zero (by decide), o0.2.2.le (by decide), Bq.zero (by decide)⟩
  refine dkS.self ⟨fun x hx => ?_, List.pairwise_singleton _ _, fun i hi => ?_, fun x hx _ => ?_⟩ fun v hv => ?_
  · rw [List.mem_singleton.1 hx]; exact ⟨⟨t0, t0⟩, Nat.le_refl _, fun _ => ⟨rfl, rfl⟩⟩
  · have : i + 1 < 1 := hi; omega
  · rw [List.mem_singleton.1 hx]; exact jq hd.ok t0.ok.tok rfl rfl
  · rw [List.mem_singleton.1 hv]; exact hd
omit KR in
theorem Ups.val (h : Ups l) {i j : Nat} (hi : i + 1 < l.length) (hj : j + 1 < l.length) {r : GQ} (hr : QOk r) (r0 : 0 ≤ ba r) (r1 : ba r ≤ 1) (ht : Tm (ao (tdv (gt l i) (gt l (i + 1)) r)))
    (hin : inU (frF l j).iv (2 * Go.Sx.tk (ao (tdv (gt l i) (gt l (i + 1)) r)))) :
    lvN (ao (tdv (gt l i) (gt l (i + 1)) r)) (frF l j).f = ((ba (gC (gt l i).p (gt l (i + 1)).p r).x, 0), (ba (gC (gt l i).p (gt l (i + 1)).p r).y, 0)) := by
  have a := h.ok i (by omega)
  have b := h.ok (i + 1) hi
  have c := h.ok j (by omega)
  have d := h.ok (j + 1) hj
  have hu := h.up i hi
  have hv := h.up j hj
  have et := sg (r := r) a.q.1 b.q.1 hr
  have qt : QOk (tdv (gt l i) (gt l (i + 1)) r) := (im a.1.1 (fi hr (fG b.1.1 a.1.1).1).1).1
  obtain ⟨_, p1, p2⟩ := lJ (r := r) ⟨a.2.1.1, a.2.2.1⟩ ⟨b.2.1.1, b.2.2.1⟩ hr
  generalize tdv (gt l i) (gt l (i + 1)) r = t at *
  have g1 : ba (gt l i).t ≤ ba t := by rw [et]; have := Rat.mul_nonneg r0 (show 0 ≤ ba (gt l (i + 1)).t - ba (gt l i).t by grind); grind
  have g2 : ba t ≤ ba (gt l (i + 1)).t := by
    rw [et]
    have := Rat.mul_nonneg (show 0 ≤ 1 - ba r by grind) (show 0 ≤ ba (gt l (i + 1)).t - ba (gt l i).t by grind)
    grind
  have g3 : ba (gt l j).t ≤ ba t ∧ (0 < j → ba (gt l j).t < ba t) := by
    have e1 : d8 (frF l j).iv ≤ 2 * Go.Sx.tk (ao t) := hin.1
    have key : ¬ ba t < ba (gt l j).t := fun e => by
      have := tk_q qt c.1.1 ht (h.tm j (by omega)) e
      have : 2 * Go.Sx.tk (ao (gt l j).t) ≤ d8 (frF l j).iv := by unfold d8 frF; simp only; omega
      omega
    refine ⟨by grind, fun hj0 => ?_⟩
    have : d8 (frF l j).iv = 2 * Go.Sx.tk (ao (gt l j).t) + 1 := by unfold d8 frF; simp only [decide_eq_true hj0, cond_true]
    exact tk_q' c.1.1 qt (h.tm j (by omega)) ht (by omega)
  have g4 : ba t ≤ ba (gt l (j + 1)).t := by
    have e1 : ((2 * Go.Sx.tk (ao t) : Nat) : Int) ≤ dU (frF l j).iv := hin.2
    have : dU (frF l j).iv = 2 * (Go.Sx.tk (ao (gt l (j + 1)).t) : Int) := by unfold dU frF; simp only [cond_false]; omega
    have key : ¬ ba (gt l (j + 1)).t < ba t := fun e => by
      have := tk_q d.1.1 qt (h.tm (j + 1) hj) ht e
      omega
    grind
  show lvN (ao t) (dN (gt l j) (gt l (j + 1))) = _
  rw [thr_lv c d (by grind), p1, p2]
  by_cases e : j = i
  · subst e
    have hz : ba (gt l (j + 1)).t - ba (gt l j).t ≠ 0 := by grind
    have k : ∀ v w : Rat, (ba t - ba (gt l j).t) * ((w - v) / (ba (gt l (j + 1)).t - ba (gt l j).t)) = (w - v) * ba r := fun v w => by rw [et]; grind
    rw [k, k]
  · have e2 : j + 1 = i := by
      rcases Nat.lt_trichotomy j i with h1 | h1 | h1
      · by_cases e3 : j + 1 = i
        · exact e3
        · exfalso; have := h.lt (show j + 1 < i by omega) (by omega); grind
      · exact absurd h1 e
      · exfalso
        have h2 := g3.2 (by omega)
        by_cases e3 : j = i + 1
        · subst e3; grind
        · have := h.lt (show i + 1 < j by omega) (by omega); grind
    subst e2
    have e5 : ba t = ba (gt l (j + 1)).t := by grind
    have hz : ba (gt l (j + 1)).t - ba (gt l j).t ≠ 0 := by grind
    have hz2 : ba (gt l (j + 1 + 1)).t - ba (gt l (j + 1)).t ≠ 0 := by grind
    have er : ba r = 0 := by
      have : ba r * (ba (gt l (j + 1 + 1)).t - ba (gt l (j + 1)).t) = 0 := by grind
      rcases Rat.mul_eq_zero.1 this with h1 | h1
      · exact h1
      · exact absurd h1 hz2
    have k : ∀ v w : Rat, (ba t - ba (gt l j).t) * ((w - v) / (ba (gt l (j + 1)).t - ba (gt l j).t)) = w - v := fun v w => by rw [e5]; grind
    rw [k, k, er]
    exact Prod.ext (Prod.ext (by dsimp only; grind) rfl) (Prod.ext (by dsimp only; grind) rfl)
omit KR in
theorem Ups.cov (h : Ups l) {i : Nat} (hi : i + 1 < l.length) {r : GQ} (hr : QOk r) (r0 : 0 ≤ ba r) (r1 : ba r ≤ 1) (ht : Tm (ao (tdv (gt l i) (gt l (i + 1)) r))) :
    ∃ w ∈ frP l (l.length - 1), inU w.iv (2 * Go.Sx.tk (ao (tdv (gt l i) (gt l (i + 1)) r))) := by
  have a := h.ok i (by omega)
  have b := h.ok (i + 1) hi
  have hu := h.up i hi
  have et := sg (r := r) a.q.1 b.q.1 hr
  have qt : QOk (tdv (gt l i) (gt l (i + 1)) r) := (im a.1.1 (fi hr (fG b.1.1 a.1.1).1).1).1
  generalize tdv (gt l i) (gt l (i + 1)) r = t at *
  have g1 : ba (gt l i).t ≤ ba t := by rw [et]; have := Rat.mul_nonneg r0 (show 0 ≤ ba (gt l (i + 1)).t - ba (gt l i).t by grind); grind
  have g2 : ba t ≤ ba (gt l (i + 1)).t := by
    rw [et]
    have := Rat.mul_nonneg (show 0 ≤ 1 - ba r by grind) (show 0 ≤ ba (gt l (i + 1)).t - ba (gt l i).t by grind)
    grind
  have le : ∀ {p q : GQ}, QOk p → QOk q → Tm (ao p) → Tm (ao q) → ba p ≤ ba q → Go.Sx.tk (ao p) ≤ Go.Sx.tk (ao q) := fun {p q} hp hq tp tq hle => by
    refine Nat.le_of_not_lt fun e => ?_
    have := tk_q' hq hp tq tp e
    grind
  have m1 := le a.1.1 qt (h.tm i (by omega)) ht g1
  have m2 := le qt b.1.1 ht (h.tm (i + 1) hi) g2
  have mem : ∀ j, j + 1 < l.length → frF l j ∈ frP l (l.length - 1) := fun j hj => by unfold frP; exact List.mem_map_of_mem (List.mem_range.2 (by omega))
  by_cases e : Go.Sx.tk (ao (gt l i).t) = Go.Sx.tk (ao t) ∧ 0 < i
  · obtain ⟨j, rfl⟩ : ∃ j, i = j + 1 := ⟨i - 1, by omega⟩
    refine ⟨frF l j, mem j (by omega), ?_, ?_⟩
    · have := h.tk (show j < j + 1 by omega) (by omega)
      have h2 : d8 (frF l j).iv ≤ 2 * Go.Sx.tk (ao (gt l j).t) + 1 := by unfold d8 frF; cases decide (0 < j) <;> simp
      omega
    · have : dU (frF l j).iv = 2 * (Go.Sx.tk (ao (gt l (j + 1)).t) : Int) := by unfold dU frF; simp only [cond_false]; omega
      omega
  · refine ⟨frF l i, mem i hi, ?_, ?_⟩
    · by_cases h0 : 0 < i
      · have h2 : d8 (frF l i).iv = 2 * Go.Sx.tk (ao (gt l i).t) + 1 := by unfold d8 frF; simp only [decide_eq_true h0, cond_true]
        omega
      · have h2 : d8 (frF l i).iv = 2 * Go.Sx.tk (ao (gt l i).t) := by unfold d8 frF; simp only [decide_eq_false h0, cond_false]; omega
        omega
    · have : dU (frF l i).iv = 2 * (Go.Sx.tk (ao (gt l (i + 1)).t) : Int) := by unfold dU frF; simp only [cond_false]; omega
      omega
omit KR in
theorem Ups.at (h : Ups l) {N : List (U Ln)} (hN : NFL DSm (frP l (l.length - 1)) N) {i : Nat} (hi : i + 1 < l.length) {r : GQ} (hr : QOk r) (r0 : 0 ≤ ba r) (r1 : ba r ≤ 1) (ht : Tm (ao (tdv (gt l i) (gt l (i + 1)) r))) :
    atRat N (tdv (gt l i) (gt l (i + 1)) r) = (gC (gt l i).p (gt l (i + 1)).p r, true) := by
  have a := h.ok i (by omega)
  have b := h.ok (i + 1) hi
  have qt : QOk (tdv (gt l i) (gt l (i + 1)) r) := (im a.1.1 (fi hr (fG b.1.1 a.1.1).1).1).1
  obtain ⟨w, hw, hin⟩ := h.cov hi hr r0 r1 ht
  rcases AtL_spec hN.nf.wv hN.nf.ord ht with ⟨u, hu, hi2, e⟩ | ⟨hno, _⟩
  · obtain ⟨w2, hw2, hin2, hs⟩ := hN.sem.s1 _ ht u hu hi2
    obtain ⟨j, hj, rfl⟩ := kK hw2
    have hv := h.val hi (show j + 1 < l.length by omega) hr r0 r1 ht hin2
    have du := hN.ok u hu
    have dw := (h.wv (show j + 1 < l.length by omega)).2
    have hl := (fB du.ok dw.ok ht.ok.tok).1 hs
    rw [hv] at hl
    obtain ⟨⟨px, py⟩, p1, p2⟩ := lJ (r := r) (a := (gt l i).p) (b := (gt l (i + 1)).p) ⟨a.2.1.1, a.2.2.1⟩ ⟨b.2.1.1, b.2.2.1⟩ hr
    unfold atRat
    rw [e]
    generalize tdv (gt l i) (gt l (i + 1)) r = t at *
    show (_, _) = _
    obtain ⟨ex, ev⟩ := qg (t := t) du.ok.X.1 qt
    obtain ⟨ey, ew⟩ := qg (t := t) du.ok.Y.1 qt
    have h1 : ba (aN (lX u.f) t) = ba (gC (gt l i).p (gt l (i + 1)).p r).x := by
      have := congrArg (fun x => x.1.1) hl
      unfold lvN lv at this
      rw [if_pos (qY t).2.1, (qY t).1] at this
      rw [ev]; exact this
    have h2 : ba (aN (lY u.f) t) = ba (gC (gt l i).p (gt l (i + 1)).p r).y := by
      have := congrArg (fun x => x.2.1) hl
      unfold lvN lv at this
      rw [if_pos (qY t).2.1, if_pos (qY t).2.1, (qY t).1] at this
      rw [ew]; exact this
    have h3 := dq ex px h1
    have h4 := dq ey py h2
    show ((⟨aN (lX u.f) t, aN (lY u.f) t⟩ : Pnt), true) = _
    rw [h3, h4]
  · obtain ⟨u, hu, hi3, _⟩ := hN.sem.c1 _ ht w hw hin
    exact absurd hi3 (hno u hu)
end
end Go.Sx
namespace Go.Sx
open Go Go.RowKit Go.Proofs
structure XS where
  t : XQ
  x : XQ
  y : XQ
def cXS (s : XS) : List Value := cXQ s.t ++ (cXQ s.x ++ cXQ s.y)
def vXS (s : XS) : Value := .agg (cXS s).toArray
instance celXS (s : XS) : Cel (vXS s) (cXS s) := ⟨rfl⟩
instance dcXS (s : XS) : Dc (cXS s) (vXS s) := ⟨rfl⟩
def xq0 : XQ := qX oQ
instance inhXQ : Inhabited XQ := ⟨xq0⟩
instance inhXS : Inhabited XS := ⟨⟨xq0, xq0, xq0⟩⟩
theorem oneXQ (x : XQ) : ∀ c ∈ cXQ x, c.oneCell' = true := by
  intro c h
  unfold cXQ cXI at h
  simp at h
  rcases h with rfl | rfl | rfl | rfl <;> rfl
instance codXQ : Cod XQ := ⟨cXQ, 4, fun _ => rfl, oneXQ, by decide⟩
instance codXS : Cod XS := ⟨cXS, 12, fun _ => rfl, fun s => dR (oneXQ _) (dR (oneXQ _) (oneXQ _)), by decide⟩
end Go.Sx
namespace Go.Sx
open Go Go.RowKit Go.Proofs
set_option maxRecDepth 100000
set_option maxHeartbeats 40000000
attribute [local irreducible] Code.wp wpList Rd Step ObS Ent
attribute [local irreducible] ar aO am au aA bG ao aM
attribute [local irreducible] aN aT ak ax aU aj aY dN kw bN aw
theorem sh31X : Sh Tryz.prog 31 XS vXS := ⟨trivial⟩
section
attribute [local instance 2000] sh27X sh25Y sh31X
end
end Go.Sx
namespace Go.Sx
def smK (l : List Smp) (r : GQ) : List GQ := (List.range l.length).map (fun i => (gt l i).t) ++ (List.range (l.length - 1)).map fun i => tdv (gt l i) (gt l (i + 1)) r
theorem smK_b {l : List Smp} {r : GQ} (hg : ∀ i, i < l.length → SOk (gt l i)) (hr : Bq 4 r) : ∀ q ∈ smK l r, Bq 200 q := by
  intro q h
  unfold smK at h
  rcases List.mem_append.1 h with h | h
  · obtain ⟨i, hi, rfl⟩ := List.mem_map.1 h
    exact (hg i (List.mem_range.1 hi)).1.le (by decide)
  · obtain ⟨i, hi, rfl⟩ := List.mem_map.1 h
    have := List.mem_range.1 hi
    exact tdv_bq (hg i (by omega)).1 (hg (i + 1) (by omega)).1 hr
theorem mR {l : List Smp} {r : GQ} (hl : l.length ≤ 300) : (smK l r).length < 1000 := by
  unfold smK; rw [List.length_append, List.length_map, List.length_map, List.length_range, List.length_range]; omega
theorem ups_of {l : List Smp} {r : GQ} (hl : l.length ≤ 300) (hg : ∀ i, i < l.length → SOk (gt l i)) (hr : Bq 4 r) (hup : ∀ i, i + 1 < l.length → ba (gt l i).t < ba (gt l (i + 1)).t) :
    @Ups (keyQ (smK l r) (smK_b hg hr) (mR hl)) l := by
  letI := keyQ (smK l r) (smK_b hg hr) (mR hl)
  exact ⟨hg, fun i hi => tm_kq' (List.mem_append_left _ (List.mem_map.2 ⟨i, List.mem_range.2 hi, rfl⟩)), hup⟩
end Go.Sx
namespace Go.Sx
theorem fZ {σ R : Type} {B : σ → Nx σ R} {I Q : σ → Prop} {μ : σ → Nat}
    (h : ∀ s, I s → (∃ s', B s = .go s' ∧ I s' ∧ μ s' < μ s) ∨ (∃ s', B s = .out s' ∧ Q s')) :
    ∀ N s, I s → μ s < N → ∃ s', bC B N s = .inl s' ∧ Q s'
  | 0, s, _, hm => absurd hm (Nat.not_lt_zero _)
  | N + 1, s, hI, hm => by
    rcases h s hI with ⟨s', e, hI', hm'⟩ | ⟨s', e, hq⟩
    · obtain ⟨t, ht, hq⟩ := fZ h N s' hI' (by omega)
      exact ⟨t, by simp only [bC, e]; exact ht, hq⟩
    · exact ⟨s', by simp only [bC, e], hq⟩
def SW {α : Type} (f : Nat → α) (a b n k : Nat) : α := if a ≤ k ∧ k < a + n then f (b + (k - a)) else if b ≤ k ∧ k < b + n then f (a + (k - b)) else f k
def RO {α : Type} (f : Nat → α) (p m q k : Nat) : α := if p ≤ k ∧ k < p + (q - m) then f (k + (m - p)) else if p + (q - m) ≤ k ∧ k < q then f (k - (q - m)) else f k
theorem ro_gt {α : Type} (f : Nat → α) {m i j : Nat} (h : j < i) (hi : i ≤ m) (hj : 0 < j) (k : Nat) : RO f (m - i) m (m + j) k = RO (SW f (m - i) m j) (m - (i - j)) m (m + j) k := by
  unfold RO SW
  repeat' split
  all_goals first | rfl | (exfalso; omega) | (congr 1; omega)
theorem ro_lt {α : Type} (f : Nat → α) {m i j : Nat} (h : i < j) (hi : i ≤ m) (h0 : 0 < i) (k : Nat) : RO f (m - i) m (m + j) k = RO (SW f (m - i) (m + j - i) i) (m - i) m (m + (j - i)) k := by
  unfold RO SW
  repeat' split
  all_goals first | rfl | (exfalso; omega) | (congr 1; omega)
theorem ro_eq {α : Type} (f : Nat → α) {m i : Nat} (hi : i ≤ m) (k : Nat) : RO f (m - i) m (m + i) k = SW f (m - i) m i k := by
  unfold RO SW
  repeat' split
  all_goals first | rfl | (exfalso; omega) | (congr 1; omega)
theorem qF {α : Type} {f g : Nat → α} (h : ∀ k, f k = g k) (a b n k : Nat) : RO f a b n k = RO g a b n k := by rw [funext h]
section
variable {α : Type} [Inhabited α]
theorem nB {d : List α} {i : Nat} (h : i < d.length) : gt d i ∈ d := by
  unfold gt; rw [List.getD_eq_getElem?_getD, List.getElem?_eq_getElem h]; exact List.getElem_mem h
theorem tJ (d : List α) (i : Nat) (x : α) (k : Nat) : gt (d.set i x) k = if k = i ∧ i < d.length then x else gt d k := by
  unfold gt
  rw [List.getD_eq_getElem?_getD, List.getD_eq_getElem?_getD, List.getElem?_set]
  by_cases h : i = k
  · subst h
    by_cases h2 : i < d.length
    · simp [h2]
    · simp [h2]
  · rw [if_neg h, if_neg (by omega)]
def nU (d : List α) (i j : Nat) : List α := (d.set i (gt d j)).set j (gt d i)
theorem iV {d : List α} {i j : Nat} (hi : i < d.length) (hj : j < d.length) (k : Nat) : gt (nU d i j) k = if k = j then gt d i else if k = i then gt d j else gt d k := by
  unfold nU
  rw [tJ, tJ, List.length_set]
  by_cases h : k = j
  · rw [if_pos ⟨h, hj⟩, if_pos h]
  · rw [if_neg (by omega), if_neg h]
    by_cases h2 : k = i
    · rw [if_pos ⟨h2, hi⟩, if_pos h2]
    · rw [if_neg (by omega), if_neg h2]
theorem tK {d : List α} {i : Nat} (h : i < d.length) : d[i]? = some (gt d i) := by
  unfold gt; rw [List.getD_eq_getElem?_getD, List.getElem?_eq_getElem h]; rfl
theorem rm {d : List α} {i j : Nat} (hi : i < d.length) (hj : j < d.length) (hij : i ≠ j) : (nU d i j).Perm d := by
  obtain ⟨B, h1, h2⟩ := ow (gt d j) (gt d i) hij (tK hi) (tK hj)
  exact (h2.symm.trans (.swap _ _ _)).trans h1.symm
structure Mrg (d d' : List α) (a b : Nat) : Prop where
  perm : d'.Perm d
  out : ∀ k, k < a ∨ b ≤ k → gt d' k = gt d k
  inn : ∀ x, a ≤ x → x < b → ∃ y, a ≤ y ∧ y < b ∧ gt d' x = gt d y
theorem Mrg.len {d d' : List α} {a b : Nat} (h : Mrg d d' a b) : d'.length = d.length := h.perm.length_eq
theorem Mrg.refl (d : List α) (a b : Nat) : Mrg d d a b := ⟨.refl _, fun _ _ => rfl, fun x h1 h2 => ⟨x, h1, h2, rfl⟩⟩
theorem Mrg.mono {d d' : List α} {a b a' b' : Nat} (h : Mrg d d' a b) (ha : a' ≤ a) (hb : b ≤ b') : Mrg d d' a' b' := by
  refine ⟨h.perm, fun k hk => h.out k (by omega), fun x h1 h2 => ?_⟩
  by_cases hx : a ≤ x ∧ x < b
  · obtain ⟨y, p, q, e⟩ := h.inn x hx.1 hx.2; exact ⟨y, by omega, by omega, e⟩
  · exact ⟨x, h1, h2, h.out x (by omega)⟩
theorem Mrg.trans {d d1 d2 : List α} {a b : Nat} (h : Mrg d d1 a b) (k : Mrg d1 d2 a b) : Mrg d d2 a b := by
  refine ⟨k.perm.trans h.perm, fun q hq => (k.out q hq).trans (h.out q hq), fun x h1 h2 => ?_⟩
  obtain ⟨y, p, q, e⟩ := k.inn x h1 h2
  obtain ⟨z, p', q', e'⟩ := h.inn y p q
  exact ⟨z, p', q', e.trans e'⟩
theorem Mrg.swap {d : List α} {a b i j : Nat} (hi : a ≤ i) (hi2 : i < b) (hj : a ≤ j) (hj2 : j < b) (hb : b ≤ d.length) (hij : i ≠ j) : Mrg d (nU d i j) a b := by
  refine ⟨rm (by omega) (by omega) hij, fun k hk => ?_, fun x h1 h2 => ?_⟩
  · rw [iV (by omega) (by omega), if_neg (by omega), if_neg (by omega)]
  · rw [iV (by omega) (by omega)]
    split
    · exact ⟨i, hi, hi2, rfl⟩
    · split
      · exact ⟨j, hj, hj2, rfl⟩
      · exact ⟨x, h1, h2, rfl⟩
def swpB (a b n i : Nat) (d : List α) : Nx (Nat × List α) (List α) :=
  bif (decide (((i : Nat) : Int) < ((n : Nat) : Int))) then
    .go ((i + 1), ((d.set (a + i) (gt d (b + i))).set (b + i) (gt d (a + i))))
  else
    .out (i, d)
def swp (d : List α) (a b n : Nat) : List α :=
  fin (bC (fun s => swpB a b n s.1 s.2) ((n - 0) + 1) (0, d)) (fun s => s.2) (fun r => r)
theorem mP {d : List α} {a b n : Nat} (hab : a + n ≤ b) (hb : b + n ≤ d.length) : Mrg d (swp d a b n) a (b + n) ∧ ∀ k, gt (swp d a b n) k = SW (gt d) a b n k := by
  obtain ⟨⟨i, d'⟩, e, h⟩ := fZ (B := fun s : Nat × List α => swpB a b n s.1 s.2) (I := fun s => s.1 ≤ n ∧ Mrg d s.2 a (b + n) ∧ ∀ k, gt s.2 k = SW (gt d) a b s.1 k)
    (Q := fun s => Mrg d s.2 a (b + n) ∧ ∀ k, gt s.2 k = SW (gt d) a b n k) (μ := fun s => n - s.1) (fun ⟨i, d1⟩ ⟨h1, h2, h3⟩ => by
      dsimp only at h1 h2 h3 ⊢
      have hl := h2.len
      by_cases hi : i < n
      · refine .inl ⟨(i + 1, nU d1 (a + i) (b + i)), ?_, ⟨by dsimp only; omega, h2.trans (Mrg.swap (by omega) (by omega) (by omega) (by omega) (by omega) (by omega)), ?_⟩, by dsimp only; omega⟩
        · unfold swpB; rw [decide_eq_true (by omega : ((i : Nat) : Int) < ((n : Nat) : Int))]; rfl
        · intro k
          dsimp only
          rw [iV (by omega) (by omega), h3, h3, h3]
          unfold SW
          repeat' split
          all_goals first | rfl | (exfalso; omega) | (congr 1; omega)
      · refine .inr ⟨(i, d1), ?_, h2, ?_⟩
        · unfold swpB; rw [decide_eq_false (by omega : ¬ ((i : Nat) : Int) < ((n : Nat) : Int))]; rfl
        · have : i = n := by omega
          subst this; exact h3) (n - 0 + 1) (0, d) ⟨Nat.zero_le _, Mrg.refl _ _ _, fun k => by
            unfold SW
            rw [if_neg (by dsimp only; omega), if_neg (by dsimp only; omega)]⟩ (by dsimp only; omega)
  have e2 : swp d a b n = d' := iw e
  rw [e2]; exact h
def rotB (m i j : Nat) (d : List α) : Nx (Nat × Nat × List α) (List α) :=
  bif ((((i : Nat) : Int)) != (((j : Nat) : Int))) then
    bif (decide (((i : Nat) : Int) > ((j : Nat) : Int))) then
      .go ((i - j), j, (swp d (m - i) m j))
    else
      .go (i, (j - i), (swp d (m - i) ((m + j) - i) i))
  else
    .out (i, j, d)
def rot (d : List α) (a m b : Nat) : List α :=
  fin (bC (fun s => rotB m s.1 s.2.1 s.2.2) ((m - a) + (b - m) + 1) ((m - a), (b - m), d)) (fun s => swp s.2.2 (m - s.1) m s.1) (fun r => r)
theorem rot_spec {d : List α} {a m b : Nat} (ham : a < m) (hmb : m < b) (hb : b ≤ d.length) : Mrg d (rot d a m b) a b ∧ ∀ k, gt (rot d a m b) k = RO (gt d) a m b k := by
  obtain ⟨⟨i, j, d'⟩, e, h1, h2, h3, h4, h5⟩ := fZ (B := fun s : Nat × Nat × List α => rotB m s.1 s.2.1 s.2.2)
    (I := fun s => 0 < s.1 ∧ 0 < s.2.1 ∧ a + s.1 ≤ m ∧ m + s.2.1 ≤ b ∧ Mrg d s.2.2 a b ∧ ∀ k, RO (gt d) a m b k = RO (gt s.2.2) (m - s.1) m (m + s.2.1) k)
    (Q := fun s => s.1 = s.2.1 ∧ a + s.1 ≤ m ∧ m + s.2.1 ≤ b ∧ Mrg d s.2.2 a b ∧ ∀ k, RO (gt d) a m b k = RO (gt s.2.2) (m - s.1) m (m + s.2.1) k) (μ := fun s => s.1 + s.2.1) (fun ⟨i, j, d1⟩ ⟨h1, h2, h3, h4, h5, h6⟩ => by
      dsimp only at h1 h2 h3 h4 h5 h6 ⊢
      have hl := h5.len
      rcases Nat.lt_trichotomy i j with h | h | h
      · obtain ⟨hm, hg⟩ := mP (d := d1) (a := m - i) (b := m + j - i) (n := i) (by omega) (by omega)
        refine .inl ⟨(i, j - i, swp d1 (m - i) (m + j - i) i), ?_, ⟨h1, by dsimp only; omega, h3, by dsimp only; omega, h5.trans (hm.mono (by omega) (by omega)), fun k => ?_⟩, by dsimp only; omega⟩
        · unfold rotB
          rw [show (((i : Nat) : Int) != ((j : Nat) : Int)) = true from bne_iff_ne.2 (by omega), decide_eq_false (by omega : ¬ ((i : Nat) : Int) > ((j : Nat) : Int))]; rfl
        · dsimp only
          rw [h6, ro_lt _ h (by omega) h1, qF hg]
      · subst h
        refine .inr ⟨(i, i, d1), ?_, rfl, h3, h4, h5, h6⟩
        unfold rotB
        rw [show (((i : Nat) : Int) != ((i : Nat) : Int)) = false from by simp]; rfl
      · obtain ⟨hm, hg⟩ := mP (d := d1) (a := m - i) (b := m) (n := j) (by omega) (by omega)
        refine .inl ⟨(i - j, j, swp d1 (m - i) m j), ?_, ⟨by dsimp only; omega, h2, by dsimp only; omega, h4, h5.trans (hm.mono (by omega) (by omega)), fun k => ?_⟩, by dsimp only; omega⟩
        · unfold rotB
          rw [show (((i : Nat) : Int) != ((j : Nat) : Int)) = true from bne_iff_ne.2 (by omega), decide_eq_true (by omega : ((i : Nat) : Int) > ((j : Nat) : Int))]; rfl
        · dsimp only
          rw [h6, ro_gt _ h (by omega) h2, qF hg]) ((m - a) + (b - m) + 1) ((m - a), (b - m), d) ⟨by dsimp only; omega, by dsimp only; omega, by dsimp only; omega, by dsimp only; omega, Mrg.refl _ _ _, fun k => by
            dsimp only
            rw [show m - (m - a) = a by omega, show m + (b - m) = b by omega]⟩ (by dsimp only; omega)
  dsimp only at h1 h2 h3 h4 h5
  subst h1
  have hl := h4.len
  have e2 : rot d a m b = swp d' (m - i) m i := iw e
  obtain ⟨hm, hg⟩ := mP (d := d') (a := m - i) (b := m) (n := i) (by omega) (by omega)
  rw [e2]
  exact ⟨h4.trans (hm.mono (by omega) (by omega)), fun k => by rw [hg, h5, ro_eq _ (by omega)]⟩
theorem qo {R : Type} {B : Nat × Nat → Nx (Nat × Nat) R} {p : Nat → Bool} {lo hi : Nat}
    (hB : ∀ i j, B (i, j) = bif decide (((i : Nat) : Int) < ((j : Nat) : Int)) then (bif p ((i + j) / 2) then .go (((i + j) / 2) + 1, j) else .go (i, ((i + j) / 2))) else .out (i, j))
    (hmon : ∀ x y, lo ≤ x → x ≤ y → y < hi → p y = true → p x = true) (hle : lo ≤ hi) (N : Nat) (hN : hi - lo < N) :
    ∃ i, bC B N (lo, hi) = .inl (i, i) ∧ lo ≤ i ∧ i ≤ hi ∧ (∀ x, lo ≤ x → x < i → p x = true) ∧ (∀ x, i ≤ x → x < hi → p x = false) := by
  obtain ⟨⟨i, j⟩, e, h1, h2, h3, h4, h5⟩ := fZ (B := B) (I := fun s => lo ≤ s.1 ∧ s.1 ≤ s.2 ∧ s.2 ≤ hi ∧ (∀ x, lo ≤ x → x < s.1 → p x = true) ∧ (∀ x, s.2 ≤ x → x < hi → p x = false))
    (Q := fun s => s.1 = s.2 ∧ lo ≤ s.1 ∧ s.2 ≤ hi ∧ (∀ x, lo ≤ x → x < s.1 → p x = true) ∧ (∀ x, s.2 ≤ x → x < hi → p x = false)) (μ := fun s => s.2 - s.1) (fun ⟨i, j⟩ ⟨h1, h2, h3, h4, h5⟩ => by
      dsimp only at h1 h2 h3 h4 h5 ⊢
      by_cases hij : i < j
      · cases hp : p ((i + j) / 2) with
        | true => exact .inl ⟨((i + j) / 2 + 1, j), by rw [hB, decide_eq_true (by omega : ((i : Nat) : Int) < ((j : Nat) : Int)), hp]; rfl, ⟨by dsimp only; omega, by dsimp only; omega, h3, fun x hx hx2 => hmon x ((i + j) / 2) hx (by dsimp only at hx2; omega) (by omega) hp, h5⟩, by dsimp only; omega⟩
        | false =>
          refine .inl ⟨(i, (i + j) / 2), by rw [hB, decide_eq_true (by omega : ((i : Nat) : Int) < ((j : Nat) : Int)), hp]; rfl, ⟨h1, by dsimp only; omega, by dsimp only; omega, h4, fun x hx hx2 => ?_⟩, by dsimp only; omega⟩
          cases hq : p x with
          | false => rfl
          | true => rw [hmon ((i + j) / 2) x (by omega) hx hx2 hq] at hp; cases hp
      · exact .inr ⟨(i, j), by rw [hB, decide_eq_false (by omega : ¬ ((i : Nat) : Int) < ((j : Nat) : Int))]; rfl, by dsimp only; omega, h1, h3, h4, h5⟩) N (lo, hi) ⟨Nat.le_refl _, hle, Nat.le_refl _, fun x _ _ => by dsimp only at *; omega, fun x _ _ => by dsimp only at *; omega⟩ hN
  dsimp only at h1 h2 h3 h4 h5
  subst h1
  exact ⟨i, e, h2, h3, h4, h5⟩
end
end Go.Sx
