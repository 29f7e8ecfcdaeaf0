/- A part of the proof of movingpointAt. -/
import Derived.Test.YtpfdaoajcnophaaGreatDoorC8
import Derived.Test.YtpfdaoajcnophaaGreatDoorD1
import Derived.Test.YtpfdaoajcnophaaGreatDoorD2
set_option linter.unusedVariables false
set_option linter.unusedSimpArgs false
open Go.Proofs.Tryz renaming runUnderlying76 → uu76, runUnderlying275 → uu275, underlying27 → nn27, underlying29 → nn29, runUnderlying3 → uu3, runUnderlying348 → uu348, zeroValue163 → vv163, isAgg46 → aa46, sizeOf46 → zz46, runUnderlying192 → uu192, sizeOf292 → zz292, runUnderlying292 → uu292, sizeOf74 → zz74, runUnderlying74 → uu74, isAgg163 → aa163, sizeOf163 → zz163, sizeOf4 → zz4, isAgg4 → aa4
namespace Go.Sx
def kcL (p q : Nat) : List GR := (List.range 65).map inZ ++ [ah (qa p), ah (qa (p + q)), gX p]
theorem inZ0 : (default : GR) = inZ 0 := by
  have e : ay 0 = ⟨false, 0⟩ := t8 (j4 0) (fun _ => rfl) (by rw [fS]; rfl)
  have h : ak ((0 : Nat) : Int) = ⟨⟨false, 0⟩, ⟨false, 0⟩⟩ := by unfold ak; rw [show ((0 : Nat) : Int) = 0 from rfl, e]
  unfold inZ
  rw [h]
  unfold ah
  rfl
theorem xt {p q : Nat} {x : GR} (h : x ∈ kcL p q) : (∃ n, n ≤ 64 ∧ x = inZ n) ∨ x = ah (qa p) ∨ x = ah (qa (p + q)) ∨ x = gX p := by
  unfold kcL at h
  rcases List.mem_append.1 h with h | h
  · obtain ⟨n, hn, rfl⟩ := List.mem_map.1 h
    exact .inl ⟨n, by have := List.mem_range.1 hn; omega, rfl⟩
  · simp at h; exact .inr h
theorem kcL_z {p q n : Nat} (h : n ≤ 64) : inZ n ∈ kcL p q := List.mem_append_left _ (List.mem_map_of_mem (List.mem_range.2 (by omega)))
theorem kc_ok {p q : Nat} {x : GR} (h : x ∈ kcL p q) : ROk x := by
  rcases xt h with ⟨n, _, rfl⟩ | rfl | rfl | rfl
  · exact inZ_ok n
  · exact ta (oB _).1
  · exact ta (oB _).1
  · exact gX_ok p
theorem kc_bq {p q : Nat} (hp : p < 256) (hq : q < 256) {x : GR} (h : x ∈ kcL p q) : Bq 100 x.p ∧ Bq 100 x.r := by
  rcases xt h with ⟨n, hn, rfl⟩ | rfl | rfl | rfl
  · exact ⟨Bq.int _ (by omega) (by decide), Bq.zero (by decide)⟩
  · exact ⟨(qa_bq (by omega)).le (by decide), Bq.zero (by decide)⟩
  · exact ⟨(qa_bq (by omega)).le (by decide), Bq.zero (by decide)⟩
  · exact ⟨(qa_bq (by omega)).le (by decide), Bq.int _ (by decide) (by decide)⟩
end Go.Sx
namespace Go.Sx
open Go Go.RowKit Go.Proofs
set_option maxRecDepth 100000
set_option maxHeartbeats 40000000
attribute [local irreducible] Code.wp wpList Rd Step ObS Ent
attribute [local irreducible] ao aK ak ap ax bI ah aQ
attribute [local irreducible] aD aM am az aR aj aX dF iV bR ay
theorem tG (c : Crq) (s : List Stq) (sv : Value) (w0 : World) (hsv : View w0 sv s) : Calls Tryz.prog 17 #[vCr c sv] w0 (RetP w0 (.bool (decide (((s.length : Nat) : Int) ≤ 6))) True) := by
 refine enter (N := 7) (args := [vCr c sv]) Tryz.func17 rfl rfl ?_; intro ac h
 have hlen := hsv.len
 refine gz h <| (xb) fun b1 => (W) ?_; clear h ac; intro ac wo h
 exact (rt h) (h.retP rfl trivial)
section
variable [K : Key] [KeyZ] [KeyB]
omit [KeyZ] [KeyB] in
theorem mv_sz {l : List (U Ln)} (hN : NFl l) (hD : ∀ u ∈ l, DT u.f) (k : Nat) (hk : k ≤ 30) : All (jh k) l := fun u hu => qL (sr (hN.wv u hu) ((hD u hu).bl (by decide)) (by decide)) hk
omit [KeyZ] [KeyB] in
end
end Go.Sx
namespace Go.Sx
open Go Go.RowKit Go.Proofs
set_option maxRecDepth 100000
set_option maxHeartbeats 40000000
attribute [local irreducible] Code.wp wpList Rd Step ObS Ent
attribute [local irreducible] ao aK ak ap ax bI ah aQ
attribute [local irreducible] aD aM am az aR aj aX dF iV bR ay
instance yD3_1 : Sz Tryz.prog 76 32 := ⟨Tryz.sizeOf76⟩
instance yD3_2 : Ag Tryz.prog 76 true := ⟨Tryz.isAgg76⟩
instance yD3_3 : Un Tryz.prog 66 (.slice 76) := ⟨Tryz.runUnderlying66⟩
instance yD3_4 : Fl Tryz.prog 76 0 74 0 := ⟨⟨_, _, uu76, rfl, rfl, rfl⟩⟩
instance yD3_5 : Fl Tryz.prog 76 1 72 20 := ⟨⟨_, _, uu76, rfl, rfl, rfl⟩⟩
end Go.Sx
namespace Go.Sx
open Go Go.RowKit Go.Proofs
set_option maxRecDepth 100000
set_option maxHeartbeats 40000000
attribute [local irreducible] Code.wp wpList Rd Step ObS Ent
attribute [local irreducible] ao aK ak ap ax bI ah aQ
attribute [local irreducible] aD aM am az aR aj aX dF iV bR ay en
theorem rp (w : World) : (method (Tryz.prog.types.size + Made.depth) 275 (.agg #[]) "Check").run Tryz.prog w = .ok (407, .agg #[]) w := mN (P := Tryz.prog) (T := 275) Tryz.type275 (by kernel_rfl) uu275 w
instance yD3_6 : Mt Tryz.prog 275 (.agg #[]) "Check" 407 := ⟨rp⟩
theorem qf (w : World) : (nilAhead (Tryz.prog.types.size + Made.depth) 275 (.agg #[]) "Check").run Tryz.prog w = .ok (some false) w := kx (P := Tryz.prog) (T := 275) (f := 407) Tryz.type275 (by kernel_rfl) uu275 w
instance yD3_7 : Nl Tryz.prog 275 (.agg #[]) "Check" := ⟨qf⟩
end Go.Sx
namespace Go.Sx
open Go Go.RowKit Go.Proofs
set_option maxRecDepth 100000
set_option maxHeartbeats 40000000
attribute [local irreducible] Code.wp wpList Rd Step ObS Ent
attribute [local irreducible] ao aK ak ap ax bI ah aQ
attribute [local irreducible] aD aM am az aR aj aX dF iV bR ay
instance yD3_8 (a b c : GQ) : Bu Tryz.prog 72 [0, 1, 2] [vQ a, vQ b, vQ c] (vD ⟨a, b, c⟩) := Bu.of ve rfl rfl
end Go.Sx
namespace Go.Sx
open Go Go.RowKit Go.Proofs
set_option maxRecDepth 100000
set_option maxHeartbeats 40000000
attribute [local irreducible] Code.wp wpList Rd Step ObS Ent
attribute [local irreducible] ao aK ak ap ax bI ah aQ
structure XI where
  neg : Bool
  b : ByteArray
structure XQ where
  n : XI
  d : XI
def cXI (x : XI) : List Value := [.bool x.neg, .string x.b]
def vXI (x : XI) : Value := .agg (cXI x).toArray
def cXQ (x : XQ) : List Value := cXI x.n ++ cXI x.d
def vXQ (x : XQ) : Value := .agg (cXQ x).toArray
instance yD3_9 (x : XI) : Cel (vXI x) (cXI x) := ⟨rfl⟩
instance yD3_10 (x : XI) : Dc (cXI x) (vXI x) := ⟨rfl⟩
instance yD3_11 (x : XQ) : Cel (vXQ x) (cXQ x) := ⟨rfl⟩
instance yD3_12 (x : XQ) : Dc (cXQ x) (vXQ x) := ⟨rfl⟩
structure Bad (b : ByteArray) : Prop where
  pos : 0 < b.size
  z : (b[0]'pos).toNat = 0
section
variable {P : Program} {w0 : World} {F : List (Nat × Value)}
theorem r_eqlE {x y : Operand} {t tt : TypeId} {b : ByteArray} (hx : ev F x = some (.string b)) (hy : ev F y = some (.string ⟨#[]⟩)) (hb : Bad b) : Rd P w0 F [] (.binOp .eql t x y tt) (.bool false) := by
  have := r_eqlS (P := P) (w0 := w0) (t := t) (tt := tt) hx hy
  rwa [decide_eq_false (fun e => by have := hb.pos; rw [e] at this; exact absurd this (by decide))] at this
theorem r_neqE {x y : Operand} {t tt : TypeId} {b : ByteArray} (hx : ev F x = some (.string b)) (hy : ev F y = some (.string ⟨#[]⟩)) (hb : Bad b) : Rd P w0 F [] (.binOp .neq t x y tt) (.bool true) := by
  have := r_neqS (P := P) (w0 := w0) (t := t) (tt := tt) hx hy
  rwa [decide_eq_false (fun e => by have := hb.pos; rw [e] at this; exact absurd this (by decide))] at this
theorem r_indexE {x ix : Operand} {t : TypeId} {b : ByteArray} {k : IntKind} (hu : ∀ w, (underlying t).run P w = .ok .string w) (hx : ev F x = some (.string b)) (hi : ev F ix = some (.int k 0)) (hb : Bad b) : Rd P w0 F [] (.index t x ix) (.int .u8 0) := by
  have := nq (P := P) (w0 := w0) (i := 0) hu hx hi hb.pos
  rwa [hb.z] at this
end
theorem yn (x : XI) (hb : Bad x.b) (w0 : World) : Calls Tryz.prog 94 #[vXI x] w0 (RetP w0 (.int .i64 5) True) := by
 refine enter (N := 21) (args := [vXI x]) Tryz.func94 rfl rfl ?_; intro ac h
 refine gz h <| (xb) fun b1 => (xo (hs := by exact r_eqlE rfl rfl hb)) <| (xg (hs := by exact fun hg => (Rd.of_nil (r_neqE (dr rfl hg) rfl hb)).step)) <| (xg (hs := by exact fun hg => (Rd.of_nil (r_indexE Tryz.runUnderlying9 (dr rfl hg) rfl hb)).step)) <| (ai) ?_ ?_ <;> clear h ac <;> intro ac wo h hc1
 · refine gz h <| (W) ?_; clear h ac wo; intro ac wo h
   exact (rt h) (h.retP rfl trivial)
 · exfalso; simp at hc1
section
theorem sh25X : Sh Tryz.prog 27 XI vXI := ⟨trivial⟩
attribute [local instance 2000] sh25X
theorem badN_ct (x : XQ) (hb : Bad x.n.b) (w0 : World) : Calls Tryz.prog 15 #[vXQ x] w0 (RetP w0 (.int .i64 5) True) := by
 refine enter (N := 31) (args := [vXQ x]) Tryz.func15 rfl rfl ?_; intro ac h
 refine gz h <| (xb) fun b1 => (xk (yn x.n hb)) <| (xg (v := .int .i64 0) (hs := by exact fun hg => False.elim (Bool.noConfusion (show false = true from hg)))) <| (ai) ?_ ?_ <;> clear h ac <;> intro ac wo h hc1
 · refine gz h <| (W) ?_; clear h ac wo; intro ac wo h
   exact (rt h) (h.retP rfl trivial)
 · exfalso; simp at hc1
theorem badD_ct (a : GI) (za : SzI 16 a) (y : XI) (hb : Bad y.b) (w0 : World) : Calls Tryz.prog 15 #[vXQ ⟨⟨a.neg, bs a.mag⟩, y⟩] w0 (RetP w0 (.int .i64 5) True) := by
 refine enter (N := 31) (args := [vXQ ⟨⟨a.neg, bs a.mag⟩, y⟩]) Tryz.func15 rfl rfl ?_; intro ac h
 have c1 : ∀ w0, Calls Tryz.prog 94 #[vXI ⟨a.neg, bs a.mag⟩] w0 (RetP w0 (.int .i64 (dq a)) True) := fun w0 => iZ a za w0
 refine gz h <| (xb) fun b1 => (xk c1) <| (xg (hs := by exact fun hg => eZ enA (kk (yn y hb)))) <| (ai) ?_ ?_ <;> clear h ac <;> intro ac wo h hc1
 · refine gz h <| (W) ?_; clear h ac wo; intro ac wo h
   exact (rt h) (h.retP rfl trivial)
 · exfalso; simp at hc1
end
end Go.Sx
namespace Go.Sx
open Go Go.RowKit Go.Proofs
theorem qb : ∀ {l : List UInt8} {c : UInt8}, c ≠ 0 → 0 < rh (l ++ [c])
  | [], c, h => by
    have h2 : c.toNat ≠ 0 := fun e => h (by rw [← UInt8.ofNat_toNat (x := c), e]; rfl)
    show 0 < c.toNat + 256 * rh []
    omega
  | b :: l, c, h => by
    have := qb (l := l) h
    show 0 < b.toNat + 256 * rh (l ++ [c])
    omega
theorem xp : ∀ (l : List UInt8) (c : UInt8), c ≠ 0 → le (rh (l ++ [c])) = l ++ [c]
  | [], c, h => by
    have h0 := qb (l := []) h
    have h2 := c.toNat_lt
    have e : rh ([] ++ [c]) = c.toNat := by show c.toNat + 256 * 0 = _; omega
    rw [e] at h0 ⊢
    rw [kd h0, Nat.mod_eq_of_lt h2, Nat.div_eq_of_lt h2, nP, UInt8.ofNat_toNat]; rfl
  | b :: l, c, h => by
    have h0 := qb (l := b :: l) h
    have h2 := b.toNat_lt
    have e : rh ((b :: l) ++ [c]) = b.toNat + 256 * rh (l ++ [c]) := rfl
    rw [kd h0, e]
    rw [show (b.toNat + 256 * rh (l ++ [c])) % 256 = b.toNat by omega, show (b.toNat + 256 * rh (l ++ [c])) / 256 = rh (l ++ [c]) by omega, xp l c h, UInt8.ofNat_toNat]; rfl
theorem uo (b : ByteArray) : (∃ m, b = bs m) ∨ Bad b := by
  obtain ⟨⟨l⟩⟩ := b
  match l with
  | [] => exact .inl ⟨0, rfl⟩
  | c :: r =>
    by_cases h : c = 0
    · refine .inr ⟨by show 0 < (c :: r).toArray.size; simp, ?_⟩
      show c.toNat = 0
      rw [h]; rfl
    · refine .inl ⟨rh (r.reverse ++ [c]), ?_⟩
      unfold bs
      rw [xp _ _ h]
      simp
def qX (a : GQ) : XQ := ⟨⟨a.num.neg, bs a.num.mag⟩, ⟨a.den.neg, bs a.den.mag⟩⟩
theorem xq_cases (x : XQ) (hs : x.n.b.size * 2 ^ 16 ≤ 70368744177664) : (∃ a : GQ, x = qX a) ∨ ∀ w0, Calls Tryz.prog 15 #[vXQ x] w0 (RetP w0 (.int .i64 5) True) := by
  obtain ⟨⟨s, b⟩, ⟨t, d⟩⟩ := x
  rcases uo b with ⟨m, rfl⟩ | hb
  · rcases uo d with ⟨k, rfl⟩ | hd
    · exact .inl ⟨⟨⟨s, m⟩, ⟨t, k⟩⟩, rfl⟩
    · refine .inr fun w0 => badD_ct ⟨s, m⟩ ?_ ⟨t, d⟩ hd w0
      unfold SzI SzB
      rw [← eP]
      exact hs
  · exact .inr fun w0 => badN_ct ⟨⟨s, b⟩, ⟨t, d⟩⟩ hb w0
end Go.Sx
namespace Go.Sx
theorem nR {a : GI} (h : dq a = 0) : IOk a := by
  intro e
  cases hn : a.neg with
  | false => rfl
  | true =>
    exfalso
    unfold dq at h
    rw [decide_eq_true e, hn] at h
    have h5 : (5 : Int) = 0 := h
    exact absurd h5 (by decide)
theorem lq {a : GQ} (h : bQ a = 0) : QOk a := by
  unfold bQ at h
  have h1 : dq a.num = 0 := Classical.byContradiction fun hn => by
    rw [show (dq a.num != 0) = true from bne_iff_ne.2 hn, Bool.true_or, cond_true] at h
    exact absurd h (by decide)
  have h2 : dq a.den = 0 := Classical.byContradiction fun hn => by
    rw [show (dq a.den != 0) = true from bne_iff_ne.2 hn, Bool.or_true, cond_true] at h
    exact absurd h (by decide)
  rw [h1, h2, show (((0 : Int) != 0) || ((0 : Int) != 0)) = false from rfl, cond_false] at h
  have i1 := nR h1
  have i2 := nR h2
  by_cases e : a.den = z0
  · exact ⟨i1, .inl e, by unfold je; rw [if_pos e]; exact Nat.coprime_one_right _⟩
  · rw [decide_eq_false (show ¬ a.den = (⟨false, 0⟩ : GI) from e), cond_false] at h
    cases hc : decide (dg a.den rational_one ≤ 0) with
    | true => rw [hc, Bool.true_or, cond_true] at h; have h5 : (5 : Int) = 0 := h; exact absurd h5 (by decide)
    | false =>
      cases hg : decide (aT a.num a.den = rational_one) with
      | false => rw [hc, hg] at h; have h5 : (5 : Int) = 0 := h; exact absurd h5 (by decide)
      | true =>
        have g1 := of_decide_eq_false hc
        have g2 := of_decide_eq_true hg
        rw [lG (b := rational_one) i2 (j4 1), p9] at g1
        have hv : 1 < fi a.den := by
          unfold icmp at g1
          split at g1
          · omega
          · split at g1
            · omega
            · omega
        have hd : a.den.neg = false ∧ 1 < a.den.mag := by
          unfold fi at hv
          cases hn : a.den.neg with
          | false => rw [hn] at hv; exact ⟨rfl, by have : (1 : Int) < (a.den.mag : Int) := hv; omega⟩
          | true => rw [hn] at hv; exfalso; have : (1 : Int) < -(a.den.mag : Int) := hv; omega
        refine ⟨i1, .inr hd, ?_⟩
        unfold je
        rw [if_neg e]
        have k := congrArg fi g2
        rw [p9] at k
        unfold aT at k
        have k2 : ((Nat.gcd a.num.mag a.den.mag : Nat) : Int) = 1 := k
        exact (by exact_mod_cast k2 : Nat.gcd a.num.mag a.den.mag = 1)
end Go.Sx
namespace Go.Sx
section
variable [K : Key]
theorem kL (i : Iv) : kB (aB i) = 2 * tk i.hi + (bif !i.openHi then 1 else 0) := by rw [pl]; rfl
omit K in
end
end Go.Sx
namespace Go.Sx
section
variable [K : Key]
omit K in
def Cvx (G : Nat → Prop) : Prop := ∀ a b c, a ≤ b → b ≤ c → G a → G c → G b
def Splt (i : Iv) (G : Nat → Prop) : Prop := ∃ a z b, a < z ∧ z < b ∧ inU i a ∧ inU i b ∧ ¬ G a ∧ G z ∧ ¬ G b
theorem sK {i : Iv} (h : Wv i) : Plc (e6 i) := by
  rcases gC i with ⟨_, e⟩ | ⟨_, e⟩
  · exact .inl ⟨_, h.1.1, e⟩
  · exact .inr ⟨_, e⟩
theorem plc_lst {i : Iv} (h : Wv i) : Plc (kB (aB i)) := by
  rw [kL]
  cases i.openHi
  · exact .inr ⟨_, rfl⟩
  · exact .inl ⟨_, h.1.2, rfl⟩
theorem xy {a b : Iv} {r : List Iv} (hp : Cn (a :: b :: r)) : Plc (kB (aB a)) ∧ e6 a < kB (aB a) ∧ kB (aB a) < e6 b ∧ ¬ inP (a :: b :: r) (kB (aB a)) := by
  obtain ⟨hb, sa, wa⟩ := hp.tail
  have s1 := sa b (List.mem_cons_self ..)
  have la := wa.le
  have a1 := lC a
  have b0 := kS b
  refine ⟨plc_lst wa, by omega, by omega, fun h => ?_⟩
  rcases dP.1 h with h | h
  · have := (ii.1 h).2; omega
  · have := hp.behind h; omega
theorem sW {a : Iv} {r : List Iv} (hp : Cn (a :: r)) : inP (a :: r) (e6 a) := dP.2 (.inl (ii.2 (mT hp.tail.2.2)))
theorem sX {i : Iv} {a b c : Nat} (h1 : a ≤ b) (h2 : b ≤ c) (ha : inU i a) (hc : inU i c) : inU i b := by unfold inU at *; omega
theorem parts2 {p : List Iv} {i : Iv} {G : Nat → Prop} (hG : Cvx G) (hp : Cn p) (h : ∀ q, Plc q → (inP p q ↔ inU i q ∧ ¬ G q)) : p.length ≤ 2 ∧ (p.length = 2 → Splt i G) := by
  match p, hp, h with
  | [], _, _ => exact ⟨Nat.zero_le _, fun e => by cases e⟩
  | [_], _, _ => exact ⟨by simp, fun e => by simp at e⟩
  | a :: b :: r, hp, h =>
    obtain ⟨g1, g2, g3, g4⟩ := xy hp
    have wa := hp.tail.2.2
    have hb := hp.tail.1
    have wb := hb.tail.2.2
    have ia := (h _ (sK wa)).1 (sW hp)
    have ib := (h _ (sK wb)).1 (dP.2 (.inr (sW hb)))
    have hz : G (kB (aB a)) := Classical.byContradiction fun hn => g4 ((h _ g1).2 ⟨sX (Nat.le_of_lt g2) (Nat.le_of_lt g3) ia.1 ib.1, hn⟩)
    refine ⟨?_, fun _ => ⟨_, _, _, g2, g3, ia.1, ib.1, ia.2, hz, ib.2⟩⟩
    match r, hp, hb, h with
    | [], _, _, _ => exact Nat.le_refl _
    | c :: r, hp, hb, h =>
      exfalso
      obtain ⟨k1, k2, k3, k4⟩ := xy hb
      have wc := hb.tail.1.tail.2.2
      have ic := (h _ (sK wc)).1 (dP.2 (.inr (dP.2 (.inr (sW hb.tail.1)))))
      have hz2 : G (kB (aB b)) := Classical.byContradiction fun hn => by
        have := (h _ k1).2 ⟨sX (Nat.le_of_lt k2) (Nat.le_of_lt k3) ib.1 ic.1, hn⟩
        rcases dP.1 this with h | h
        · have := (ii.1 h).2
          have a1 := lC a
          omega
        · exact k4 h
      exact ib.2 (hG _ _ _ (Nat.le_of_lt g3) (Nat.le_of_lt k2) hz hz2)
theorem splt_one {i j : Iv} {G : Nat → Prop} (hG : Cvx G) (hd : Dj i j) (hi : Splt i G) (hj : Splt j G) : False := by
  obtain ⟨a, z, b, h1, h2, h3, h4, h5, h6, h7⟩ := hi
  obtain ⟨a', z', b', k1, k2, k3, k4, k5, k6, k7⟩ := hj
  unfold Dj at hd
  unfold inU at h3 h4 k3 k4
  rcases hd with hd | hd
  · exact h7 (hG z b z' (by omega) (by omega) h6 k6)
  · exact k7 (hG z' b' z (by omega) (by omega) k6 h6)
theorem rg {f : U Ln → List (U Ln)} {G : Nat → Prop} (hG : Cvx G) : ∀ {l : List (U Ln)}, (l.Pairwise fun a b => Dj a.iv b.iv) → (∀ u ∈ l, (f u).length ≤ 2 ∧ ((f u).length = 2 → Splt u.iv G)) → (l.flatMap f).length ≤ l.length + 1 ∧ ((∀ u ∈ l, ¬ Splt u.iv G) → (l.flatMap f).length ≤ l.length)
  | [], _, _ => ⟨by simp, fun _ => by simp⟩
  | u :: l, hp, h => by
    obtain ⟨p1, p2⟩ := List.pairwise_cons.1 hp
    obtain ⟨s1, s2⟩ := rg hG p2 fun v hv => h v (List.mem_cons_of_mem _ hv)
    obtain ⟨u1, u2⟩ := h u (List.mem_cons_self ..)
    rw [List.flatMap_cons, List.length_append, List.length_cons]
    refine ⟨?_, fun hn => ?_⟩
    · by_cases e : Splt u.iv G
      · have := s2 fun v hv hs => splt_one hG (p1 v hv) e hs
        omega
      · have : (f u).length ≠ 2 := fun h2 => e (u2 h2)
        omega
    · have : (f u).length ≠ 2 := fun h2 => hn u (List.mem_cons_self ..) (u2 h2)
      have := s2 fun v hv => hn v (List.mem_cons_of_mem _ hv)
      omega
theorem rsI_part {l : List (U Ln)} {d : List Iv} {G : Nat → Prop} (hG : Cvx G) (hl : NFl l) (hd : Cn d) (h : ∀ u ∈ l, ∀ x, Plc x → inU u.iv x → (inP d x ↔ ¬ G x)) : (rsI l d).length ≤ l.length + 1 := by
  refine (rg hG hl.dj fun u hu => ?_).1
  rw [List.length_map]
  obtain ⟨c, p⟩ := l8 (jm (hl.wv u hu)) hd.wv
  refine parts2 hG c fun q hq => (p q).trans ⟨fun ⟨a, b⟩ => ⟨jq.1 a, (h u hu q hq (jq.1 a)).1 b⟩, fun ⟨a, b⟩ => ⟨jq.2 a, (h u hu q hq a).2 b⟩⟩
variable [KeyZ] [KeyB]
theorem mov_len (c : Crq) (s : List Stq) (p q : Nat) [KeyG p q] : (vi c s p q).length ≤ 8 := by
  obtain ⟨_, h, hl⟩ := sn c s
  unfold vi
  cases decide (p % 3 = 0) with
  | true => rw [cond_true]; omega
  | false =>
    rw [cond_false]
    have hg : Wv (ot p q) := xx
    obtain ⟨c1, p1⟩ := rP h.nf.wv
    obtain ⟨c2, p2⟩ := lW c1.wv (jm hg)
    obtain ⟨_, _, _, h4⟩ := pV h.nf h.ok c2.wv
    have := rsI_part (l := fz c s) (G := inU (ot p q)) (fun a b c h1 h2 ha hc => sX h1 h2 ha hc) h.nf c2 fun u hu x hx hi => (p2 x).trans ⟨fun ⟨a, b⟩ g => b (jq.2 g), fun hn => ⟨(p1 x).2 ⟨u, hu, hi⟩, fun g => hn (jq.1 g)⟩⟩
    have := h4.len
    omega
end
end Go.Sx
namespace Go.Sx
section
variable {α : Type} [Inhabited α]
def mV (σ : GR → GR) (i : Iv) : Iv := ⟨σ i.lo, σ i.hi, i.openLo, i.openHi⟩
def mU (σ : GR → GR) (φ : α → α) (x : U α) : U α := ⟨mV σ x.iv, φ x.f⟩
def Pu (P : GR → Prop) (D : α → Prop) (x : U α) : Prop := (P x.iv.lo ∧ P x.iv.hi) ∧ D x.f
theorem mb {β γ : Type} [Inhabited β] [Inhabited γ] (m : β → γ) {L : List β} {x : Nat} (h : x < L.length) : gt (L.map m) x = m (gt L x) := by
  rw [fU h, fU (by rw [List.length_map]; exact h), List.getElem_map]
structure Mv (P : GR → Prop) (D : α → Prop) (eqf : α → α → Bool) (same : α → α → GR → Bool) (red : α → GR → α) (σ : GR → GR) (φ : α → α) : Prop where
  inj : ∀ a b, P a → P b → (σ a = σ b ↔ a = b)
  sm : ∀ f g t, D f → D g → P t → same (φ f) (φ g) (σ t) = same f g t
  rd : ∀ f t, D f → P t → red (φ f) (σ t) = φ (red f t)
  rD : ∀ f t, D f → P t → D (red f t)
  eq : ∀ f g, D f → D g → eqf (φ f) (φ g) = eqf f g
variable {P : GR → Prop} {D : α → Prop} {eqf : α → α → Bool} {same : α → α → GR → Bool} {red : α → GR → α} {σ : GR → GR} {φ : α → α}
omit [Inhabited α] in
theorem Mv.dec (M : Mv P D eqf same red σ φ) {a b : GR} (ha : P a) (hb : P b) : decide (σ a = σ b) = decide (a = b) := decide_eq_decide.2 (M.inj a b ha hb)
omit [Inhabited α] in
theorem Mv.inst (M : Mv P D eqf same red σ φ) {i : Iv} (h : P i.lo ∧ P i.hi) : aP (mV σ i) = aP i := by
  unfold aP; exact M.dec h.1 h.2
theorem pZ {L : List (U α)} (hL : ∀ x ∈ L, Pu P D x) {x : Nat} (h : x < L.length) : Pu P D (gt L x) := hL _ (by rw [fU h]; exact List.getElem_mem _)
theorem Mv.held (M : Mv P D eqf same red σ φ) {out : List (U α)} (ho : ∀ x ∈ out, Pu P D x) {t : GR} (ht : P t) : jt (out.map (mU σ φ)) (σ t) = jt out t := by
  unfold jt
  rw [List.length_map]
  by_cases h : 0 < out.length
  · rw [mb _ (by omega)]
    show ((_ && decide (σ (gt out (out.length - 1)).iv.hi = σ t)) && _) = _
    rw [M.dec (pZ ho (by omega)).1.2 ht]
    rfl
  · rw [decide_eq_false (by omega : ¬ ((out.length : Nat) : Int) > 0)]; rfl
theorem Mv.bef (M : Mv P D eqf same red σ φ) {L out : List (U α)} (hL : ∀ x ∈ L, Pu P D x) (ho : ∀ x ∈ out, Pu P D x) {x : Nat} (hx : x < L.length) : sc (L.map (mU σ φ)) (out.map (mU σ φ)) x = sc L out x := by
  unfold sc
  rw [List.length_map, mb _ hx]
  by_cases h : 0 < out.length
  · have hp := pZ ho (by omega : out.length - 1 < out.length)
    rw [mb _ (by omega)]
    show ((_ && decide (σ (gt out (out.length - 1)).iv.hi = σ (gt L x).iv.lo)) && !(aP (mV σ (gt out (out.length - 1)).iv))) = _
    rw [M.dec hp.1.2 (pZ hL hx).1.1, M.inst hp.1]
  · rw [decide_eq_false (by omega : ¬ ((out.length : Nat) : Int) > 0)]; rfl
omit [Inhabited α] in
theorem wH {out : List (U α)} (ho : ∀ x ∈ out, Pu P D x) {y : U α} (hy : Pu P D y) : ∀ x ∈ out ++ [y], Pu P D x := fun x hx => by
  rcases List.mem_append.1 hx with hx | hx
  · exact ho x hx
  · rw [List.mem_singleton.1 hx]; exact hy
omit [Inhabited α] in
theorem pu_set {out : List (U α)} (ho : ∀ x ∈ out, Pu P D x) {i : Nat} {y : U α} (hy : Pu P D y) : ∀ x ∈ out.set i y, Pu P D x := fun x hx => by
  rcases List.mem_or_eq_of_mem_set hx with hx | rfl
  · exact ho x hx
  · exact hy
theorem Mv.gap (M : Mv P D eqf same red σ φ) {L out : List (U α)} (hL : ∀ x ∈ L, Pu P D x) (ho : ∀ x ∈ out, Pu P D x) {x : Nat} (hx : x < L.length) :
    iQ (L.map (mU σ φ)) (out.map (mU σ φ)) x = (iQ L out x).map (mU σ φ) ∧ ∀ y ∈ iQ L out x, Pu P D y := by
  have h1 := pZ hL hx
  have h2 := pZ hL (by omega : x - 1 < L.length)
  unfold iQ
  rw [mb _ hx, mb _ (by omega : x - 1 < L.length)]
  have e : ((((decide (((x : Nat) : Int) > 0)) && (aP ((mU σ φ (gt L (x - 1))).iv))) && (decide (((mU σ φ (gt L (x - 1))).iv).lo = ((mU σ φ (gt L x)).iv).lo))) && (!(jt (out.map (mU σ φ)) (((mU σ φ (gt L x)).iv).lo))))
      = ((((decide (((x : Nat) : Int) > 0)) && (aP ((gt L (x - 1)).iv))) && (decide (((gt L (x - 1)).iv).lo = ((gt L x).iv).lo))) && (!(jt out (((gt L x).iv).lo)))) := by
    show ((((decide (((x : Nat) : Int) > 0)) && (aP (mV σ (gt L (x - 1)).iv))) && (decide (σ ((gt L (x - 1)).iv).lo = σ ((gt L x).iv).lo))) && (!(jt (out.map (mU σ φ)) (σ ((gt L x).iv).lo)))) = _
    rw [M.inst h2.1, M.dec h2.1.1 h1.1.1, M.held ho h1.1.1]
  rw [e]
  cases ((((decide (((x : Nat) : Int) > 0)) && (aP ((gt L (x - 1)).iv))) && (decide (((gt L (x - 1)).iv).lo = ((gt L x).iv).lo))) && (!(jt out (((gt L x).iv).lo))))
  · exact ⟨by rw [cond_false, cond_false, List.map_append]; rfl, by rw [cond_false]; exact wH ho h1⟩
  · exact ⟨by rw [cond_true, cond_true, List.map_append]; rfl, by rw [cond_true]; exact wH ho h1⟩
theorem Mv.pt (M : Mv P D eqf same red σ φ) {L out : List (U α)} (hL : ∀ x ∈ L, Pu P D x) (ho : ∀ x ∈ out, Pu P D x) {x : Nat} (hx : x < L.length) :
    kh same red (L.map (mU σ φ)) (out.map (mU σ φ)) x = (kh same red L out x).map (mU σ φ) ∧ ∀ y ∈ kh same red L out x, Pu P D y := by
  have h1 := pZ hL hx
  unfold kh
  rw [mb _ hx, List.length_map]
  have e : (((decide (((x + 1 : Nat) : Int) < ((L.length : Nat) : Int))) && (decide (((gt (L.map (mU σ φ)) (x + 1)).iv).lo = ((mU σ φ (gt L x)).iv).lo))) && (same ((gt (L.map (mU σ φ)) (x + 1)).f) ((mU σ φ (gt L x)).f) (((mU σ φ (gt L x)).iv).lo)))
      = (((decide (((x + 1 : Nat) : Int) < ((L.length : Nat) : Int))) && (decide (((gt L (x + 1)).iv).lo = ((gt L x).iv).lo))) && (same ((gt L (x + 1)).f) ((gt L x).f) (((gt L x).iv).lo))) := by
    by_cases h : x + 1 < L.length
    · have h2 := pZ hL h
      rw [mb _ h]
      show ((_ && (decide (σ ((gt L (x + 1)).iv).lo = σ ((gt L x).iv).lo))) && (same (φ (gt L (x + 1)).f) (φ (gt L x).f) (σ (gt L x).iv.lo))) = _
      rw [M.dec h2.1.1 h1.1.1, M.sm _ _ _ h2.2 h1.2 h1.1.1]
    · rw [decide_eq_false (by omega : ¬ ((x + 1 : Nat) : Int) < ((L.length : Nat) : Int))]; rfl
  rw [e]
  cases (((decide (((x + 1 : Nat) : Int) < ((L.length : Nat) : Int))) && (decide (((gt L (x + 1)).iv).lo = ((gt L x).iv).lo))) && (same ((gt L (x + 1)).f) ((gt L x).f) (((gt L x).iv).lo)))
  · refine ⟨?_, by rw [cond_false]; exact wH ho ⟨h1.1, M.rD _ _ h1.2 h1.1.1⟩⟩
    rw [cond_false, cond_false, List.map_append]
    show _ ++ [(⟨mV σ (gt L x).iv, red (φ (gt L x).f) (σ (gt L x).iv.lo)⟩ : U α)] = _
    rw [M.rd _ _ h1.2 h1.1.1]
    rfl
  · exact ⟨rfl, ho⟩
theorem Mv.step (M : Mv P D eqf same red σ φ) {L out : List (U α)} (hL : ∀ x ∈ L, Pu P D x) (ho : ∀ x ∈ out, Pu P D x) {x : Nat} (hx : x < L.length) :
    eU eqf same red (L.map (mU σ φ)) (out.map (mU σ φ)) x = (eU eqf same red L out x).map (mU σ φ) ∧ ∀ y ∈ eU eqf same red L out x, Pu P D y := by
  have h1 := pZ hL hx
  obtain ⟨g1, g2⟩ := M.gap hL ho hx
  obtain ⟨p1, p2⟩ := M.pt hL ho hx
  unfold eU
  rw [M.bef hL ho hx, mb _ hx, g1, p1, List.length_map]
  have ei : aP (mU σ φ (gt L x)).iv = aP (gt L x).iv := M.inst h1.1
  rw [ei]
  cases hb : sc L out x with
  | false =>
    rw [cond_false, cond_false]
    cases (!(aP ((gt L x).iv)))
    · exact ⟨rfl, p2⟩
    · exact ⟨rfl, g2⟩
  | true =>
    obtain ⟨b1, _, _⟩ := jg.1 hb
    have ho1 := pZ ho (by omega : out.length - 1 < out.length)
    rw [mb _ (by omega : out.length - 1 < out.length), cond_true, cond_true]
    cases (!(aP ((gt L x).iv)))
    · rw [cond_false, cond_false]
      show (bif (same (φ (gt out (out.length - 1)).f) (φ (gt L x).f) (σ (gt L x).iv.lo)) then _ else _) = _ ∧ _
      rw [M.sm _ _ _ ho1.2 h1.2 h1.1.1]
      cases same (gt out (out.length - 1)).f (gt L x).f (gt L x).iv.lo
      · exact ⟨rfl, p2⟩
      · refine ⟨?_, ?_⟩
        · rw [cond_true, cond_true, List.map_set]; rfl
        · rw [cond_true]; exact pu_set ho ho1
    · rw [cond_true, cond_true]
      show (bif ((!(gt out (out.length - 1)).iv.openHi) && (eqf (φ (gt out (out.length - 1)).f) (φ (gt L x).f))) then _ else _) = _ ∧ _
      rw [M.eq _ _ ho1.2 h1.2]
      cases ((!(gt out (out.length - 1)).iv.openHi) && (eqf (gt out (out.length - 1)).f (gt L x).f))
      · exact ⟨rfl, g2⟩
      · refine ⟨?_, ?_⟩
        · rw [cond_true, cond_true, List.map_set]; rfl
        · rw [cond_true]; exact pu_set ho ⟨⟨ho1.1.1, h1.1.2⟩, ho1.2⟩
omit [Inhabited α] in
theorem Mv.at1 (M : Mv P D eqf same red σ φ) {u : U α} (h : Pu P D u) : atU (mU σ φ u) = (atU u).map (mU σ φ) ∧ ∀ y ∈ atU u, Pu P D y := by
  unfold atU
  rw [show aP (mU σ φ u).iv = aP u.iv from M.inst h.1]
  have e1 : (mU σ φ u).iv.openLo = u.iv.openLo := rfl
  have e2 : (mU σ φ u).iv.openHi = u.iv.openHi := rfl
  rw [e1, e2]
  obtain ⟨⟨a, b⟩, c⟩ := h
  cases u.iv.openLo <;> cases aP u.iv <;> cases u.iv.openHi <;>
    exact ⟨rfl, fun y hy => by
      simp only [cond_true, cond_false, List.mem_append, List.mem_cons, List.not_mem_nil, or_false, false_or] at hy <;> first
        | (rcases hy with rfl | rfl | rfl <;> first | exact ⟨⟨a, a⟩, c⟩ | exact ⟨⟨b, b⟩, c⟩ | exact ⟨⟨a, b⟩, c⟩)
        | (rcases hy with rfl | rfl <;> first | exact ⟨⟨a, a⟩, c⟩ | exact ⟨⟨b, b⟩, c⟩ | exact ⟨⟨a, b⟩, c⟩)
        | (rcases hy with rfl <;> first | exact ⟨⟨a, a⟩, c⟩ | exact ⟨⟨b, b⟩, c⟩ | exact ⟨⟨a, b⟩, c⟩)⟩
omit [Inhabited α] in
theorem Mv.ats (M : Mv P D eqf same red σ φ) : ∀ {n : List (U α)}, (∀ x ∈ n, Pu P D x) → (n.map (mU σ φ)).flatMap atU = (n.flatMap atU).map (mU σ φ) ∧ ∀ y ∈ n.flatMap atU, Pu P D y
  | [], _ => ⟨rfl, fun _ h => by cases h⟩
  | u :: n, h => by
    obtain ⟨e1, e2⟩ := M.at1 (h u (List.mem_cons_self ..))
    obtain ⟨e3, e4⟩ := M.ats (n := n) fun x hx => h x (List.mem_cons_of_mem _ hx)
    refine ⟨?_, fun y hy => ?_⟩
    · rw [List.map_cons, List.flatMap_cons, List.flatMap_cons, List.map_append, e1, e3]
    · rw [List.flatMap_cons] at hy
      rcases List.mem_append.1 hy with hy | hy
      · exact e2 y hy
      · exact e4 y hy
end
section
variable {α β : Type} [Inhabited α] {c : α → α → Int} {c' : β → β → Int} {m : α → β} {S : α → Prop}
omit [Inhabited α] in
omit [Inhabited α] in
end
structure MvV (h : GQ) (p : Pnt) (f g : Ln) : Prop where
  ok : LOk g
  x0 : a6 g.x0 = a6 f.x0 - a6 h * a6 f.x1 + a6 p.x
  x1 : g.x1 = f.x1
  y0 : a6 g.y0 = a6 f.y0 - a6 h * a6 f.y1 + a6 p.y
  y1 : g.y1 = f.y1
theorem MvV.uniq {h : GQ} {p : Pnt} {f g k : Ln} (a : MvV h p f g) (b : MvV h p f k) : g = k :=
  Ln.ext4 (eC a.ok.1 b.ok.1 (by rw [a.x0, b.x0])) (a.x1.trans b.x1.symm) (eC a.ok.2.2.1 b.ok.2.2.1 (by rw [a.y0, b.y0])) (a.y1.trans b.y1.symm)
section
variable [K : Key]
end
end Go.Sx
namespace Go.Sx
def p0 : Pnt := ⟨zQ, zQ⟩
section
variable [K : Key] [KeyB]
end
end Go.Sx
namespace Go.Sx
open Go Go.RowKit Go.Proofs
set_option maxRecDepth 100000
set_option maxHeartbeats 40000000
attribute [local irreducible] Code.wp wpList Rd Step ObS Ent
attribute [local irreducible] ao aK ak ap ax bI ah aQ
attribute [local irreducible] aD aM am az aR aj aX dF iV bR ay
def xsz (x : XQ) : Nat := x.n.b.size + x.d.b.size
def Gd (x : XQ) : Prop := ∃ a : GQ, x = qX a ∧ QOk a ∧ a.num.mag < 2 ^ 64 ∧ a.den.mag < 2 ^ 64
theorem r6 (x : XQ) (hs : xsz x ≤ 8) : ∃ e : Int, (∀ w0, Calls Tryz.prog 15 #[vXQ x] w0 (RetP w0 (.int .i64 e) True)) ∧ (e = 0 → Gd x) := by
 unfold xsz at hs
 rcases xq_cases x (by have : x.n.b.size ≤ 8 := by omega
                       exact Nat.le_trans (Nat.mul_le_mul_right _ this) (by decide)) with ⟨a, rfl⟩ | h
 · have h1 : (le a.num.mag).length ≤ 8 := by rw [← eP]; have : (bs a.num.mag).size + (bs a.den.mag).size ≤ 8 := hs; omega
   have h2 : (le a.den.mag).length ≤ 8 := by rw [← eP]; have : (bs a.num.mag).size + (bs a.den.mag).size ≤ 8 := hs; omega
   have za : SzQ 16 a := ⟨Nat.le_trans (Nat.mul_le_mul_right _ h1) (by decide), Nat.le_trans (Nat.mul_le_mul_right _ h2) (by decide)⟩
   exact ⟨bQ a, fun w0 => fj a za w0, fun e => ⟨a, rfl, lq e, (cP 8 _).1 h1, (cP 8 _).1 h2⟩⟩
 · exact ⟨5, h, fun e => absurd e (by decide)⟩
theorem sh27X : Sh Tryz.prog 29 XQ vXQ := ⟨trivial⟩
theorem sh25Y : Sh Tryz.prog 27 XI vXI := ⟨trivial⟩
section
attribute [local instance 2000] sh27X sh25Y
end
end Go.Sx
namespace Go.Sx
open Go Go.RowKit Go.Proofs
set_option maxRecDepth 100000
set_option maxHeartbeats 40000000
attribute [local irreducible] Code.wp wpList Rd Step ObS Ent
attribute [local irreducible] ao aK ak ap ax bI ah aQ
attribute [local irreducible] aD aM am az aR aj aX dF iV bR ay
def Gq (a : GQ) : Prop := QOk a ∧ a.num.mag < 2 ^ 64 ∧ a.den.mag < 2 ^ 64
theorem gq_bq {a : GQ} (k : Gq a) : Bq 64 a := Bq.self k.1 k.2.1 (by
 unfold je
 by_cases e : a.den = z0
 · rw [if_pos e]; decide
 · rw [if_neg e]; exact k.2.2)
theorem yh : Bu Tryz.prog 39 [] [] (vPt ⟨oQ, oQ⟩) := Bu.of bld29 rfl rfl
theorem bld27' : Bu Tryz.prog 29 [] [] (vQ oQ) := Bu.of ni rfl rfl
attribute [local instance] yh bld27'
end Go.Sx
namespace Go.Sx
open Go Go.RowKit Go.Proofs Go.ChangeShapes Go.WideShapes
set_option maxRecDepth 100000
section
variable {H : Type} {enc : TypeId × Value → H} {W : World} {base : Nat} {sp : Nat → Bool} {held : Bool}
def dXI (x : XI) : DataW H := .agg [.lit (.bool x.neg), .lit (.string x.b.data.toList)]
def dXQ (x : XQ) : DataW H := .agg [dXI x.n, dXI x.d]
theorem tz {fuel : Nat} {cs : List Value} {x : DataW H × List MemPlace} (h : DataW.trod enc Tryz.prog W base sp held fuel 27 cs = some x) : ∃ i : XI, cs = cXI i ∧ x.1 = dXI i := by
  obtain ⟨xs, n, _, hx, hlen, hxl, hf⟩ := DataW.trod_struct nn27 h
  rw [show Tryz.prog.cellsOf 27 = 2 by kernel_rfl] at hlen
  obtain ⟨c0, c1, rfl⟩ : ∃ c0 c1, cs = [c0, c1] := by
    match cs, hlen with
    | [c0, c1], _ => exact ⟨_, _, rfl⟩
  have k4 : Tryz.prog.cellsOf 4 = 1 := by kernel_rfl
  have k9 : Tryz.prog.cellsOf 9 = 1 := by kernel_rfl
  have f0 : DataW.trod enc Tryz.prog W base sp held n 4 (([c0, c1].drop 0).take (Tryz.prog.cellsOf 4)) = xs[0]? := hf 0 _ rfl
  have f1 : DataW.trod enc Tryz.prog W base sp held n 9 (([c0, c1].drop 1).take (Tryz.prog.cellsOf 9)) = xs[1]? := hf 1 _ rfl
  rw [k4] at f0
  rw [k9] at f1
  obtain ⟨y0, y1, rfl⟩ : ∃ y0 y1, xs = [y0, y1] := by
    have : xs.length = 2 := hxl
    match xs, this with
    | [y0, y1], _ => exact ⟨_, _, rfl⟩
  obtain ⟨b, e0, d0⟩ := DataW.trod_bool Tryz.underlying4 f0
  obtain ⟨s, e1, d1, _⟩ := DataW.trod_string Tryz.underlying9 f1
  simp at e0 e1
  subst e0 e1
  refine ⟨⟨b, s⟩, rfl, ?_⟩
  rw [hx, d0, d1]; rfl
theorem tx {fuel : Nat} {cs : List Value} {x : DataW H × List MemPlace} (h : DataW.trod enc Tryz.prog W base sp held fuel 29 cs = some x) : ∃ i : XQ, cs = cXQ i ∧ x.1 = dXQ i := by
  obtain ⟨xs, n, _, hx, hlen, hxl, hf⟩ := DataW.trod_struct nn29 h
  rw [show Tryz.prog.cellsOf 29 = 4 by kernel_rfl] at hlen
  have k25 : Tryz.prog.cellsOf 27 = 2 := by kernel_rfl
  have f0 : DataW.trod enc Tryz.prog W base sp held n 27 ((cs.drop 0).take (Tryz.prog.cellsOf 27)) = xs[0]? := hf 0 _ rfl
  have f1 : DataW.trod enc Tryz.prog W base sp held n 27 ((cs.drop 2).take (Tryz.prog.cellsOf 27)) = xs[1]? := hf 1 _ rfl
  rw [k25] at f0 f1
  obtain ⟨y0, y1, rfl⟩ : ∃ y0 y1, xs = [y0, y1] := by
    have : xs.length = 2 := hxl
    match xs, this with
    | [y0, y1], _ => exact ⟨_, _, rfl⟩
  obtain ⟨i, e0, d0⟩ := tz f0
  obtain ⟨j, e1, d1⟩ := tz f1
  refine ⟨⟨i, j⟩, ?_, ?_⟩
  · show cs = cXI i ++ cXI j
    rw [← e0, ← e1]
    match cs, hlen with
    | [a, b, c, d], _ => rfl
  · rw [hx]
    show DataW.agg [y0.1, y1.1] = DataW.agg [dXI i, dXI j]
    rw [d0, d1]
theorem w_xq (x : XQ) : DataW.weights Tryz.prog 29 (dXQ (H := H) x) = [x.n.b.data.toList.length, x.d.b.data.toList.length] := by
  unfold dXQ dXI
  simp [DataW.weights, DataW.weightsEach, nn29, nn27]
end
end Go.Sx
namespace Go.Sx
open Go Go.RowKit Go.Proofs
set_option maxRecDepth 100000
set_option maxHeartbeats 40000000
attribute [local irreducible] Code.wp wpList Rd Step ObS Ent
attribute [local irreducible] ao aK ak ap ax bI ah
attribute [local irreducible] aD aM am az aR aj aX dF iV
def plAdd (p q : Pnt) : Pnt := ⟨az p.x q.x, az p.y q.y⟩
def plSub (p q : Pnt) : Pnt := ⟨aj p.x q.x, aj p.y q.y⟩
def wO (p : Pnt) (r : GQ) : Pnt := ⟨am p.x r, am p.y r⟩
def iI (a b : Pnt) (r : GQ) : Pnt := plAdd a (wO (plSub b a) r)
end Go.Sx
namespace Go.Sx
open Go Go.RowKit Go.Proofs
set_option maxRecDepth 100000
set_option maxHeartbeats 40000000
attribute [local irreducible] Code.wp wpList Rd Step ObS Ent
attribute [local irreducible] ao aK ak ap ax bI
def eA (u : U Ln) (t : GR) : Int :=
 (ao u.iv.hi t)
theorem jl (u : U Ln) (t : GR) (zu : jh 30 u) (zt : SzR 30 t) (w0 : World)  : Calls Tryz.prog 230 #[(vUN u), (vR t)] w0 (RetP w0 (.int .i64 (eA u t)) (True)) := by
 refine enter (N := 10) (args := [(vUN u), (vR t)]) Tryz.func230 rfl rfl ?_; intro ac h
 have p2 := an ((cH u.iv.hi t 10 og zu.1.2 zt) w0)
 refine gz h <| (xb) fun b1 => (xb) fun b2 => (xk (cH u.iv.hi t 10 og zu.1.2 zt)) <| (W) ?_; clear h ac; intro ac wo h
 exact (rt h) (h.retP (by unfold eA; rfl) trivial)
attribute [irreducible] eA
def va (x : List (U Ln)) (target : GR) (i : Nat) (j : Nat) : Int × Bool :=
 (((i : Nat) : Int), ((decide (((i : Nat) : Int) < ((x.length : Nat) : Int))) && ((eA (gt x i) target) == 0)))
def fB (x : List (U Ln)) (target : GR) (i : Nat) (j : Nat) : Nx (Nat × Nat) (Int × Bool) :=
 bif (decide (((i : Nat) : Int) < ((j : Nat) : Int))) then
  bif (decide ((eA (gt x ((i + j) / 2)) target) < 0)) then
   .go ((((i + j) / 2) + 1), j)
  else
   .go (i, ((i + j) / 2))
 else
  .out (i, j)
def gY (x : List (U Ln)) (target : GR) : Int × Bool :=
 fin (dE (fun s => fB x target s.1 s.2) (x.length - 0 + 1) (0, x.length)) (fun s => va x target s.1 s.2) (fun r => r)
theorem pD (x : List (U Ln)) (xv : Value) (target : GR) (hl : x.length ≤ 1000) (zx : All (jh 30) x) (ztarget : SzR 30 target) (w0 : World) (hxv : View w0 xv x) : Calls Tryz.prog 229 #[xv, (vR target), (.func (.func 230) #[] #[])] w0 (RetP w0 (.tuple #[(.int .i64 ((gY x target).1)), (.bool ((gY x target).2))]) ((0 ≤ (gY x target).1 ∧ (gY x target).1 ≤ (x.length : Int)))) := by
 refine enter (N := 49) (args := [xv, (vR target), (.func (.func 230) #[] #[])]) Tryz.func229 rfl rfl ?_; intro ac h
 have hlenx := hxv.len
 obtain ⟨X1, hX1⟩ : ∃ X, dE (fun s => fB x target s.1 s.2) (x.length - 0 + 1) (0, x.length) = X := ⟨_, rfl⟩
 refine gz h <| (xb) fun b1 => (W) ?_; clear h ac; intro ac wo h
 refine wp_loop_ghost (fun n_ a_ w_ => ∃ (i : Nat) (j : Nat), (j - i < n_) ∧ (dE (fun s => fB x target s.1 s.2) n_ (i, j) = X1) ∧ (i ≤ j) ∧ (j ≤ x.length) ∧ St w0 49 [(0, xv), (2, (.func (.func 230) #[] #[])), (4, (ptr b1 0)), (8, (.int .i64 ((x.length : Nat) : Int))), (9, (.int .i64 ((i : Nat) : Int))), (10, (.int .i64 ((j : Nat) : Int)))] [.blk b1 (cR target) 46] a_ w_) (x.length - 0 + 1) ⟨0, x.length, og, hX1, og, og, h.rs⟩ ?_
 clear h ac wo; rintro n1 ac wo ⟨i, j, hm1, hL1, hij, hjn, h⟩
 obtain ⟨m1, rfl⟩ : ∃ m, n1 = m + 1 := ⟨n1 - 1, by omega⟩
 refine gz h <| (ai) ?_ ?_ <;> clear h ac wo <;> intro ac wo h hc1
 ·
  have hd1 := of_decide_eq_true hc1
  refine gz h <| (xo (hs := by exact bc uu3 uu348 rfl (r := ((i + j : Nat) : Int)) (by rw [IntKind.wrap_u64]; omega))) <| (xo (hs := by exact oz rfl rfl (r := ((((i + j) / 2 : Nat)) : Int)) og (by first | decide | (simp [IntKind.bits] <;> omega)) (by rw [show ((1 : Int).toNat) = 1 from rfl]; omega))) <| (xo (hs := by exact bc uu348 uu3 rfl (r := ((((i + j) / 2 : Nat)) : Int)) (by rw [IntKind.wrap_i64]; omega))) <| (dr0 (hob := (oK (jl (gt x ((i + j) / 2)) target (All.gt zx (bW _)) ztarget)) <| oE)) <| (ai) ?_ ?_ <;> clear h ac wo <;> intro ac wo h hc2
  ·
   have hd2 := of_decide_eq_true hc2
   refine gz h <| (W) ?_; clear h ac wo; intro ac wo h
   have hg := eO hL1 pt
   exact aL ⟨m1, og, _, _, og, hg, og, og, h.re [0]⟩
  ·
   have hd2 := of_decide_eq_false hc2
   refine gz h <| (W) ?_; clear h ac wo; intro ac wo h
   have hg := eO hL1 pt
   exact aL ⟨m1, og, _, _, og, hg, og, og, h.re [0]⟩
 ·
  have hd1 := of_decide_eq_false hc1
  have hx1 := f8 hL1 pt
  have hd : gY x target = (((i : Nat) : Int), ((decide (((i : Nat) : Int) < ((x.length : Nat) : Int))) && ((eA (gt x i) target) == 0))) := pt
  refine gz h <| (dr0 (hob := (oG (by exact fun hg => jl (gt x i) target (All.gt zx (bW _)) ztarget)) <| oE)) <| (W) ?_; clear h ac wo; intro ac wo h
  exact (rt h) (h.retP (by rw [hd] <;> rfl) (by rw [hd]; exact og))
attribute [irreducible] gY
def my (l : List (U Ln)) (t : GR) (i : Nat) (mb2 : Ln) : Ln × Bool :=
 ((⟨(⟨(⟨false, 0⟩ : GI), (⟨false, 0⟩ : GI)⟩ : GQ), (⟨(⟨false, 0⟩ : GI), (⟨false, 0⟩ : GI)⟩ : GQ), (⟨(⟨false, 0⟩ : GI), (⟨false, 0⟩ : GI)⟩ : GQ), (⟨(⟨false, 0⟩ : GI), (⟨false, 0⟩ : GI)⟩ : GQ)⟩ : Ln), false)
def dW (l : List (U Ln)) (t : GR) (i : Nat) (mb2 : Ln) : Nx (Nat × Ln) (Ln × Bool) :=
 bif (decide (((i : Nat) : Int) < ((l.length : Nat) : Int))) then
  bif (decide ((ao (((gt l i).iv).lo) t) > 0)) then
   .out (i, mb2)
  else
   bif (((decide ((ao (((gt l i).iv).lo) t) < 0)) || (!((gt l i).iv).openLo)) && ((!(decide (((gt l i).iv).hi = t))) || (!((gt l i).iv).openHi))) then
    .ret ((gt l i).f, true)
   else
    .go ((i + 1), mb2)
 else
  .out (i, mb2)
def bJ (l : List (U Ln)) (t : GR) : Ln × Bool :=
 fin (dE (fun s => dW l t s.1 s.2) ((l.length - (((gY l t).1).toNat)) + 1) (((gY l t).1).toNat, (⟨(⟨(⟨false, 0⟩ : GI), (⟨false, 0⟩ : GI)⟩ : GQ), (⟨(⟨false, 0⟩ : GI), (⟨false, 0⟩ : GI)⟩ : GQ), (⟨(⟨false, 0⟩ : GI), (⟨false, 0⟩ : GI)⟩ : GQ), (⟨(⟨false, 0⟩ : GI), (⟨false, 0⟩ : GI)⟩ : GQ)⟩ : Ln))) (fun s => my l t s.1 s.2) (fun r => r)
theorem fM (l : List (U Ln)) (lv : Value) (t : GR) (hl : l.length ≤ 1000) (zl : All (jh 30) l) (zt : SzR 30 t) (w0 : World) (hlv : View w0 lv l) : Calls Tryz.prog 125 #[lv, (vR t)] w0 (RetP w0 (.tuple #[(vN ((bJ l t).1)), (.bool ((bJ l t).2))]) (SzN 30 ((bJ l t).1))) := by
 refine enter (N := 68) (args := [lv, (vR t)]) Tryz.func125 rfl rfl ?_; intro ac h
 have hlenl := hlv.len
 refine n5 fun K1 hK1 => ?_
 refine bx h (cR t) rfl rfl rfl fun b1 => ga (cN (⟨oQ, oQ, oQ, oQ⟩ : Ln)) vv163 rfl rfl fun b2 => g0 (aA rfl) rfl <| gn hK1 <| gr fun K2 hK2 => g0 (aq rfl) rfl <| g1 1 rfl (iT aa46 zz46 rfl rfl rfl (v := (vR t)) rfl) rfl ?_; clear h ac; intro ac wo h
 have s1 := Calls.pr ((fun w_ hB_ hS_ => pD l lv t og zl zt w_ (hlv.below hB_)) _ h.bel h.sep)
 have p2 := s1
 refine c_val h (dl Tryz.call229 rfl) (fun w_ hB_ hS_ => pD l lv t og zl zt w_ (hlv.below hB_)) rfl <| g0 (aq rfl) rfl <| g0 (Rd.cast (de rfl rfl) (v := .int .i64 ((((gY l t).1).toNat : Nat) : Int)) (congrArg (Value.int .i64) og)) rfl <| g0 (de rfl rfl) rfl <| g0 (aA rfl) rfl <| g0 (aA rfl) rfl <| gn hK2 <| gq fun K3 hK3 => gB ?_; clear h ac wo; intro ac wo h
 obtain ⟨X1, hX1⟩ : ∃ X, dE (fun s => dW l t s.1 s.2) ((l.length - (((gY l t).1).toNat)) + 1) (((gY l t).1).toNat, (⟨oQ, oQ, oQ, oQ⟩ : Ln)) = X := ⟨_, rfl⟩
 refine wp_loop_ghost (fun n_ a_ w_ => ∃ (i : Nat) (mb2 : Ln), ((l.length - i) < n_) ∧ (dE (fun s => dW l t s.1 s.2) n_ (i, mb2) = X1) ∧ (i ≤ l.length) ∧ (SzN 30 mb2) ∧ St w0 68 [(0, lv), (3, (ptr b1 0)), (4, (ptr b2 0)), (6, (.int .i64 ((i : Nat) : Int)))] [.blk b2 (cN mb2) 163, .blk b1 (cR t) 46] a_ w_) ((l.length - (((gY l t).1).toNat)) + 1) ⟨((gY l t).1).toNat, (⟨oQ, oQ, oQ, oQ⟩ : Ln), og, hX1, og, ⟨⟨(bu 0 (by decide) og), (bu 0 (by decide) og)⟩, ⟨(bu 0 (by decide) og), (bu 0 (by decide) og)⟩, ⟨(bu 0 (by decide) og), (bu 0 (by decide) og)⟩, ⟨(bu 0 (by decide) og), (bu 0 (by decide) og)⟩⟩, h.rs⟩ ?_
 clear h ac wo; rintro n1 ac wo ⟨i, mb2, hm1, hL1, hi, zmb2, h⟩
 obtain ⟨m1, rfl⟩ : ∃ m, n1 = m + 1 := ⟨n1 - 1, by omega⟩
 refine gz h <| gq fun K4 hK4 => gr fun K5 hK5 => g0 (aq rfl) rfl <| g0 (aq rfl) rfl <| g0 (gj uu192 rfl hlv.sl) rfl <| g0 (iW rfl rfl) rfl <| gn hK5 ?_; clear h ac wo; intro ac wo h
 refine jD h rfl (fun hc1 => ?_) (fun hc1 => ?_)
 ·
  have hd1 := of_decide_eq_true hc1
  refine kH ?_
  refine hK4 _ _ ?_
  refine oZ fun K6 hK6 => ?_
  refine qE ?_
  refine oZ fun K7 hK7 => ?_
  have p4 := an ((cH (((gt l i).iv).lo) t 10 og ((All.gt zl (bW _)).1).1 zt) w0)
  refine fq mixed [dv _, dv _, dv _, dv _, dv _, dv _, dw _ [1], dv _, dv _] [⟨_, []⟩, ⟨_, []⟩] h rfl (by kernel_rfl) ⟨fun _ _ => om rfl, fun _ _ => om rfl, fun _ _ => aZ (ik (i := i) uu192 zz292 rfl rfl (hlv.nn (i := i) og) og), fun _ _ => aZ (fs uu292 rfl zz74 rfl (hlv.nn (i := 0) og) rfl rfl (k' := i * 36 + 0)), fun _ _ => aZ (fs uu74 rfl zz46 rfl (hlv.nn (i := 0) og) rfl (by first | rfl | (simp only [Nat.add_assoc] <;> rfl)) (k' := i * 36 + 0)), fun _ _ => aZ (m8 (k := 0) aa46 zz46 hlv (jX og) rfl rfl rfl rfl (v := (vR (((gt l i).iv).lo))) rfl), fun _ _ => il _ rfl rfl (iT aa46 zz46 rfl rfl rfl (v := (vR t)) rfl), fun _ _ => g7 (eZ (dl Tryz.call59 rfl) (kk (cH (((gt l i).iv).lo) t 10 og ((All.gt zl (bW _)).1).1 zt))), fun _ _ => aZ (aA rfl), trivial⟩ ?_
  clear h ac wo; intro ξ ac wo hφ h
  replace h : St w0 68 [(0, lv), (3, (ptr b1 0)), (4, (ptr b2 0)), (6, (.int .i64 ((i : Nat) : Int))), (8, (.int .i64 (ao (((gt l i).iv).lo) t)))] [.blk b2 (cN mb2) 163, .blk b1 (cR t) 46] ac wo := (h.pick [0, 1] (by decide)).sub ⟨rfl, rfl, rfl, rfl, rfl, trivial⟩
  clear hφ ξ
  refine gz h <| gx hK7 <| gq fun K8 hK8 => gr fun K9 hK9 => g0 (aq rfl) rfl <| g0 (r_gtr rfl rfl) rfl <| gn hK9 ?_; clear h ac wo; intro ac wo h
  refine jD h rfl (fun hc2 => ?_) (fun hc2 => ?_)
  ·
   have hd2 := of_decide_eq_true hc2
   refine i7 ?_
   have hx1 := f8 hL1 pt
   refine gz h <| gx hK3 <| gr fun K10 hK10 => ga (cN (⟨oQ, oQ, oQ, oQ⟩ : Ln)) vv163 rfl rfl fun b3 => gn hK10 <| gr fun K11 hK11 => g1 0 rfl (iT aa163 zz163 rfl rfl rfl (v := (vN (⟨oQ, oQ, oQ, oQ⟩ : Ln))) rfl) rfl <| gs 1 (cN (⟨oQ, oQ, oQ, oQ⟩ : Ln)) rfl zz163 rfl rfl rfl rfl rfl rfl rfl <| g0 (aA rfl) rfl <| gn hK11 <| gT ?_; clear h ac wo; intro ac wo h
   have hd : bJ l t = ((⟨oQ, oQ, oQ, oQ⟩ : Ln), false) := pt
   exact ret h rfl (.cell (v := (vN (⟨oQ, oQ, oQ, oQ⟩ : Ln))) rfl (i := 1) rfl aa163 zz163 rfl rfl rfl (.tmp rfl .nil)) rfl (h.retP (by rw [hd] <;> rfl) (by rw [hd]; exact ⟨⟨(bu 0 (by decide) og), (bu 0 (by decide) og)⟩, ⟨(bu 0 (by decide) og), (bu 0 (by decide) og)⟩, ⟨(bu 0 (by decide) og), (bu 0 (by decide) og)⟩, ⟨(bu 0 (by decide) og), (bu 0 (by decide) og)⟩⟩))
  ·
   have hd2 := of_decide_eq_false hc2
   refine kH ?_
   refine hK8 _ _ ?_
   refine oZ fun K12 hK12 => ?_
   refine fq mixed [dv _, dv _, dv _, dv _, dv _, dv _, dv _, dv _, dv _, dv _, dv _, dv _, dv _, dv _, dv _, dv _, dv _, dv _, dw _ [1], dv _, dv _, dv _, dv _, dv _, dv _, dv _, dv _, dv _, dv _, dv _] [⟨_, []⟩, ⟨_, []⟩] h rfl (by kernel_rfl) ⟨fun _ _ => om rfl, fun _ _ => aZ (iW rfl rfl), fun _ _ => om rfl, fun _ _ => og2 rfl rfl rfl rfl (fun hg => Rd.step (aq rfl)), fun _ _ => og2 rfl rfl rfl rfl (fun hg => Rd.step (aq rfl)), fun _ _ => og2 rfl rfl rfl rfl (fun hg => Rd.step (ik (i := i) uu192 zz292 (dr rfl hg) (dr rfl hg) (hlv.nn (i := i) og) og)), fun _ _ => og2 rfl rfl rfl rfl (fun hg => Rd.step (fs uu292 rfl zz74 rfl (hlv.nn (i := 0) og) (dr rfl hg) rfl (k' := i * 36 + 0))), fun _ _ => og2 rfl rfl rfl rfl (fun hg => Rd.step (fs uu74 rfl zz4 rfl (hlv.nn (i := 0) og) (dr rfl hg) (by first | rfl | (simp only [Nat.add_assoc] <;> rfl)) (k' := i * 36 + 18))), fun _ _ => og2 rfl rfl rfl rfl (fun hg => Rd.step (m8 (k := 18) aa4 zz4 hlv (jX og) (dr rfl hg) rfl rfl rfl (v := (.bool (((gt l i).iv).openLo))) rfl)), fun _ _ => og2 rfl rfl rfl rfl (fun hg => Rd.step (r_not (dr rfl hg))), fun _ _ => aZ (r_or rfl (fun e => (dr rfl (notI e)))), fun _ _ => om rfl, fun _ _ => oh rfl rfl rfl rfl (fun hg => aq rfl), fun _ _ => oh rfl rfl rfl rfl (fun hg => aq rfl), fun _ _ => oh rfl rfl rfl rfl (fun hg => ik (i := i) uu192 zz292 (dr rfl hg) (dr rfl hg) (hlv.nn (i := i) og) og), fun _ _ => oh rfl rfl rfl rfl (fun hg => fs uu292 rfl zz74 rfl (hlv.nn (i := 0) og) (dr rfl hg) rfl (k' := i * 36 + 0)), fun _ _ => oh rfl rfl rfl rfl (fun hg => fs uu74 rfl zz46 rfl (hlv.nn (i := 0) og) (dr rfl hg) (by first | rfl | (simp only [Nat.add_assoc] <;> rfl)) (k' := i * 36 + 9)), fun _ _ => oh rfl rfl rfl rfl (fun hg => m8 (k := 9) aa46 zz46 hlv (jX og) (dr rfl hg) rfl rfl rfl (v := (vR (((gt l i).iv).hi))) rfl), fun _ _ => oh rfl rfl rfl rfl (fun hg => iT aa46 zz46 rfl rfl rfl (v := (vR t)) rfl), fun _ _ => oh rfl rfl rfl rfl (fun hg => r_neqT eqp71 (dr rfl hg) (dr rfl hg)), fun _ _ => oh rfl rfl rfl rfl (fun hg => aq (dr rfl hg)), fun _ _ => og4 rfl rfl rfl rfl (fun hg => Rd.step (aq rfl)), fun _ _ => og4 rfl rfl rfl rfl (fun hg => Rd.step (aq rfl)), fun _ _ => og4 rfl rfl rfl rfl (fun hg => Rd.step (ik (i := i) uu192 zz292 (dr rfl hg) (dr rfl hg) (hlv.nn (i := i) og) og)), fun _ _ => og4 rfl rfl rfl rfl (fun hg => Rd.step (fs uu292 rfl zz74 rfl (hlv.nn (i := 0) og) (dr rfl hg) rfl (k' := i * 36 + 0))), fun _ _ => og4 rfl rfl rfl rfl (fun hg => Rd.step (fs uu74 rfl zz4 rfl (hlv.nn (i := 0) og) (dr rfl hg) (by first | rfl | (simp only [Nat.add_assoc] <;> rfl)) (k' := i * 36 + 19))), fun _ _ => og4 rfl rfl rfl rfl (fun hg => Rd.step (m8 (k := 19) aa4 zz4 hlv (jX og) (dr rfl hg) rfl rfl rfl (v := (.bool (((gt l i).iv).openHi))) rfl)), fun _ _ => og4 rfl rfl rfl rfl (fun hg => Rd.step (r_not (dr rfl hg))), fun _ _ => oh rfl rfl rfl rfl (fun hg => r_or (dr rfl hg) (fun e => (dr rfl (andI hg (notI e))))), fun _ _ => aZ (wF rfl (fun e => (dr rfl e))), trivial⟩ ?_
   clear h ac wo; intro ξ ac wo hφ h
   replace h : St w0 68 [(0, lv), (3, (ptr b1 0)), (4, (ptr b2 0)), (6, (.int .i64 ((i : Nat) : Int))), (61, (.bool (((decide ((ao (((gt l i).iv).lo) t) < 0)) || (!((gt l i).iv).openLo)) && ((!(decide (((gt l i).iv).hi = t))) || (!((gt l i).iv).openHi)))))] [.blk b2 (cN mb2) 163, .blk b1 (cR t) 46] ac wo := (h.pick [0, 1] (by decide)).sub ⟨rfl, rfl, rfl, rfl, rfl, trivial⟩
   clear hφ ξ
   refine hK12 _ _ ?_
   refine jD h rfl (fun hc3 => ?_) (fun hc3 => ?_)
   ·
    have hq3 := hc3; try simp at hq3
    refine gz h <| gr fun K13 hK13 => g0 (aq rfl) rfl <| g0 (aq rfl) rfl <| g0 (ik (i := i) uu192 zz292 rfl rfl (hlv.nn (i := i) og) og) rfl <| g0 (fs uu292 rfl zz163 rfl (hlv.nn (i := 0) og) rfl rfl (k' := i * 36 + 20)) rfl <| g0 (m8 (k := 20) aa163 zz163 hlv (jX og) rfl rfl rfl rfl (v := (vN ((gt l i).f))) rfl) rfl <| gs 0 (cN ((gt l i).f)) rfl zz163 rfl rfl rfl rfl rfl rfl rfl <| g0 (aA rfl) rfl <| gn hK13 <| gT ?_; clear h ac wo; intro ac wo h
    have hr1 := ns hL1 pt
    have hd : bJ l t = ((gt l i).f, true) := pt
    exact ret h rfl (.cell (v := (vN ((gt l i).f))) rfl (i := 0) rfl aa163 zz163 rfl rfl rfl (.tmp rfl .nil)) rfl (h.retP (by rw [hd] <;> rfl) (by rw [hd]; exact (All.gt zl (bW _)).2))
   ·
    have hq3 := hc3; try simp at hq3
    refine gz h <| gS <| gN <| gx hK6 <| gR <| g0 (aq rfl) rfl <| g0 (eB rfl rfl (r := ((i + 1 : Nat) : Int)) (by rw [IntKind.wrap_i64]; omega)) rfl <| g0 (aA rfl) rfl <| gx (fun _ _ => fu) ?_; clear h ac wo; intro ac wo h
    have hg := eO hL1 pt
    exact aL ⟨m1, og, _, _, og, hg, og, zmb2, h.re [0, 1]⟩
 ·
  have hd1 := of_decide_eq_false hc1
  refine i7 ?_
  have hx1 := f8 hL1 pt
  refine gz h <| gx hK3 <| gr fun K14 hK14 => ga (cN (⟨oQ, oQ, oQ, oQ⟩ : Ln)) vv163 rfl rfl fun b4 => gn hK14 <| gr fun K15 hK15 => g1 0 rfl (iT aa163 zz163 rfl rfl rfl (v := (vN (⟨oQ, oQ, oQ, oQ⟩ : Ln))) rfl) rfl <| gs 1 (cN (⟨oQ, oQ, oQ, oQ⟩ : Ln)) rfl zz163 rfl rfl rfl rfl rfl rfl rfl <| g0 (aA rfl) rfl <| gn hK15 <| gT ?_; clear h ac wo; intro ac wo h
  have hd : bJ l t = ((⟨oQ, oQ, oQ, oQ⟩ : Ln), false) := pt
  exact ret h rfl (.cell (v := (vN (⟨oQ, oQ, oQ, oQ⟩ : Ln))) rfl (i := 1) rfl aa163 zz163 rfl rfl rfl (.tmp rfl .nil)) rfl (h.retP (by rw [hd] <;> rfl) (by rw [hd]; exact ⟨⟨(bu 0 (by decide) og), (bu 0 (by decide) og)⟩, ⟨(bu 0 (by decide) og), (bu 0 (by decide) og)⟩, ⟨(bu 0 (by decide) og), (bu 0 (by decide) og)⟩, ⟨(bu 0 (by decide) og), (bu 0 (by decide) og)⟩⟩))
attribute [irreducible] bJ
end Go.Sx
namespace Go.Sx
open Go Go.RowKit Go.Proofs
set_option maxRecDepth 100000
set_option maxHeartbeats 40000000
attribute [local irreducible] Code.wp wpList Rd Step ObS Ent
attribute [local irreducible] ao aK ak ap ax bI ah
attribute [local irreducible] aD aM am az aR aj aX dF iV
def nj (l : List (U Ln)) (t : GQ) : Pnt × Bool :=
 bif (bJ l (ah t)).2 then (⟨aD (lxs (bJ l (ah t)).1) t, aD (lys (bJ l (ah t)).1) t⟩, true) else (⟨oQ, oQ⟩, false)
theorem bld29z : Bu Tryz.prog 39 [] [] (vPt ⟨oQ, oQ⟩) := Bu.of bld29 rfl rfl
attribute [local instance] bld29z
theorem atRat_ct (l : List (U Ln)) (lv : Value) (t : GQ) (hl : l.length ≤ 1000) (zl : All (jh 30) l) (zt : SzQ 30 t) (w0 : World) (hlv : View w0 lv l) : Calls Tryz.prog 25 #[lv, vQ t] w0 (RetP w0 (.tuple #[vPt (nj l t).1, .bool (nj l t).2]) True) := by
 refine enter (N := 28) (args := [lv, vQ t]) Tryz.func25 rfl rfl ?_; intro ac h
 have c1 := cO t 30 og zt
 obtain ⟨f, hf⟩ : ∃ f, (bJ l (ah t)).1 = f := ⟨_, rfl⟩
 obtain ⟨ok, ho⟩ : ∃ b, (bJ l (ah t)).2 = b := ⟨_, rfl⟩
 have z : SzN 30 f := by rw [← hf]; exact an (fM l lv (ah t) hl zl (an (c1 w0)) w0 hlv)
 have c2 := xi f 30 og z
 have c3 := xh f 30 og z
 have c4 := fk (lxs f) t 20 og (an (c2 w0)) zt
 have c5 := fk (lys f) t 20 og (an (c3 w0)) zt
 have hat : nj l t = bif ok then (⟨aD (lxs f) t, aD (lys f) t⟩, true) else (⟨oQ, oQ⟩, false) := by unfold nj; rw [hf, ho]
 refine gz h <| (xb) fun b3 => (xa) fun b4 => (W) ?_; clear h ac; intro ac wo h
 replace h := h.emps 2
 refine fq mixed [dv lv, ⟨.nd (.con True), [2]⟩, dw (vQ t) [1], dv (vR (ah t)), dw (.tuple #[vN f, .bool ok]) [2], dv (.tuple #[vN f, .bool ok]), dv (vN f), dv (.bool ok), ⟨.nd (.one 8 fun x => ∃ b, x = ptr b 0), [3]⟩, dw undef [3], dv (.bool ok)]
  [⟨_, []⟩, ⟨_, []⟩, ⟨.emp, [(1, .one 1 fun x => .row (α := U Ln) 292 x l)]⟩, ⟨.emp, [(8, .one 8 fun x => .blk (bE x) (cN default) 163), (9, .one 8 fun x => .blk (bE x) (cN f) 163)]⟩] h rfl (by kernel_rfl)
  ⟨oA obA,
   fun ξ _ => na (B := fun x => [.row (α := U Ln) 292 x l]) [.emp] rfl (fun v _ => by simp only [dh, bo] <;> rfl) (fun _ _ => trivial) (qW (v8 (dl Tryz.call126 rfl) (fun w_ hB_ hS_ => to_ct l lv hl w_ (hlv.below hB_)))),
   oA obA, oA fun _ => g7 (gg Tryz.call26 rfl c1),
   fun ξ _ => ly [.row (α := U Ln) 292 (ξ 1) l] [.row (α := U Ln) 292 (ξ 1) l] rfl rfl (eZ (dl Tryz.call125 rfl) (fun w_ hB_ hS_ => by have := fM l (ξ 1) (ah t) hl zl (an (c1 w0)) w_ (row_view hS_ 0 rfl); rw [hf, ho] at this; exact this)),
   oA obA, oA obA, oA obA, fun _ _ => kX 3 rfl (fun _ => rfl), fun ξ hφ => kW (u := vN f) 3 (hφ 8 rfl) rfl rfl rfl rfl rfl rfl rfl, oA obA, trivial⟩ ?_
 clear h ac wo; intro ξ ac wo hφ h
 obtain ⟨b6, hb6⟩ : ∃ b, ξ 8 = ptr b 0 := hφ 8
 replace h : St w0 28 [(3, ptr b3 0), (4, ptr b4 0), (6, ξ 8), (7, .bool ok)] [.blk b4 (cPt default) 39, .blk b3 (cQ t) 29, .blk (bE (ξ 8)) (cN f) 163] ac wo := (h.pick [0, 1, 3] (by decide)).sub ⟨rfl, rfl, rfl, rfl, trivial⟩
 rw [hb6] at h
 clear hb6 hφ ξ
 refine gz h <| (ai) ?_ ?_ <;> clear h ac wo <;> intro ac wo h hc1
 ·
  have hk : ok = false := by simpa using hc1
  rw [hat, hk]
  refine gz h <| (W) ?_; clear h ac wo; intro ac wo h
  exact sf 0 h (h.retP (u := .tuple #[vPt ⟨oQ, oQ⟩, .bool false]) rfl trivial)
 ·
  have hk : ok = true := by simpa using hc1
  rw [hat, hk]
  refine gz h <| (dr1 (H := [⟨.blk b4 (cPt default) 39, [(9, .con (.blk b4 (cPt ⟨aD (lxs f) t, aD (lys f) t⟩) 39))]⟩, ⟨_, []⟩, ⟨_, []⟩]) (hob := (oK c2) <| (oK c4) <| (oK c3) <| (oK c5) <| oE)) <| (W) ?_; clear h ac wo; intro ac wo h
  exact sf 0 h (h.retP (u := .tuple #[vPt ⟨aD (lxs f) t, aD (lys f) t⟩, .bool true]) rfl trivial)
end Go.Sx
namespace Go.Sx
theorem scanL {T R : Type} {B : T → Nx T R} (st : Nat → T) {n : Nat} {brk hit : Nat → Bool} {r : Nat → R} {o : Nat → T}
    (h : ∀ i, i < n → B (st i) = bif brk i then .out (o i) else bif hit i then .ret (r i) else .go (st (i + 1))) (ho : B (st n) = .out (o n)) :
    ∀ k a, a ≤ n → n - a < k → ∃ b, a ≤ b ∧ b ≤ n ∧ (∀ j, a ≤ j → j < b → brk j = false ∧ hit j = false) ∧ ((b < n ∧ brk b = false ∧ hit b = true ∧ dE B k (st a) = .inr (r b)) ∨ ((b = n ∨ (b < n ∧ brk b = true)) ∧ dE B k (st a) = .inl (o b)))
  | k + 1, a, ha, hk => by
    by_cases e : a = n
    · subst e
      exact ⟨a, Nat.le_refl _, Nat.le_refl _, fun j h1 h2 => by omega, .inr ⟨.inl rfl, jV k ho⟩⟩
    · have h1 := h a (by omega)
      cases hb : brk a with
      | true =>
        rw [hb, cond_true] at h1
        exact ⟨a, Nat.le_refl _, by omega, fun j h1 h2 => by omega, .inr ⟨.inr ⟨by omega, hb⟩, jV k h1⟩⟩
      | false =>
        rw [hb, cond_false] at h1
        cases hh : hit a with
        | true =>
          rw [hh, cond_true] at h1
          exact ⟨a, Nat.le_refl _, by omega, fun j h1 h2 => by omega, .inl ⟨by omega, hb, hh, xn k h1⟩⟩
        | false =>
          rw [hh, cond_false] at h1
          obtain ⟨b, b1, b2, b3, b4⟩ := scanL st h ho k (a + 1) (by omega) (by omega)
          refine ⟨b, by omega, b2, fun j j1 j2 => ?_, ?_⟩
          · by_cases e2 : j = a
            · subst e2; exact ⟨hb, hh⟩
            · exact b3 j (by omega) j2
          · rw [kQ k h1]; exact b4
theorem gtmL {β : Type} [Inhabited β] {l : List β} {i : Nat} (h : i < l.length) : gt l i ∈ l := by rw [fU h]; exact List.getElem_mem _
theorem memL {β : Type} [Inhabited β] {l : List β} {x : β} (h : x ∈ l) : ∃ i, i < l.length ∧ gt l i = x := by
  obtain ⟨i, hi, e⟩ := List.getElem_of_mem h
  exact ⟨i, hi, by rw [fU hi]; exact e⟩
section
variable [K : Key]
theorem qG {N : List (U Ln)} (hw : ∀ u ∈ N, Tv u.iv) {t : GR} (ht : Tm t) (hm : ∀ p q, p < q → q < N.length → tk (gt N p).iv.hi ≤ tk (gt N q).iv.hi) :
    ∀ k i j, j - i < k → i ≤ j → j ≤ N.length → (∀ p, p < i → tk (gt N p).iv.hi < tk t) → (∀ p, j ≤ p → p < N.length → tk t ≤ tk (gt N p).iv.hi) →
      ∃ m, m ≤ N.length ∧ dE (fun s => fB N t s.1 s.2) k (i, j) = .inl (m, m) ∧ (∀ p, p < m → tk (gt N p).iv.hi < tk t) ∧ (∀ p, m ≤ p → p < N.length → tk t ≤ tk (gt N p).iv.hi)
  | k + 1, i, j, hk, hij, hj, h1, h2 => by
    by_cases e : i < j
    · have hlt : (i + j) / 2 < N.length := by omega
      have hc : eA (gt N ((i + j) / 2)) t = sgn (tk (gt N ((i + j) / 2)).iv.hi) (tk t) := by
        unfold eA; exact (hw _ (gtmL hlt)).2.cmp ht
      by_cases hlt2 : tk (gt N ((i + j) / 2)).iv.hi < tk t
      · have hB : fB N t i j = .go (((i + j) / 2) + 1, j) := by
          unfold fB
          rw [decide_eq_true (by omega : ((i : Nat) : Int) < ((j : Nat) : Int)), hc, iO hlt2]; rfl
        rw [kQ (B := fun s => fB N t s.1 s.2) k hB]
        refine qG hw ht hm k _ _ (by omega) (by omega) hj (fun p hp => ?_) h2
        by_cases e2 : p = (i + j) / 2
        · rw [e2]; exact hlt2
        · have := hm p ((i + j) / 2) (by omega) hlt
          omega
      · have hB : fB N t i j = .go (i, (i + j) / 2) := by
          unfold fB
          rw [decide_eq_true (by omega : ((i : Nat) : Int) < ((j : Nat) : Int)), hc]
          have : decide (sgn (tk (gt N ((i + j) / 2)).iv.hi) (tk t) < 0) = false := by
            rcases Nat.lt_or_eq_of_le (Nat.le_of_not_lt hlt2) with h3 | h3
            · rw [jj h3]; rfl
            · rw [h3, fI]; rfl
          rw [this]; rfl
        rw [kQ (B := fun s => fB N t s.1 s.2) k hB]
        refine qG hw ht hm k _ _ (by omega) (by omega) (by omega) h1 (fun p hp hp2 => ?_)
        by_cases e2 : p = (i + j) / 2
        · rw [e2]; omega
        · have := hm ((i + j) / 2) p (by omega) hp2
          omega
    · have hB : fB N t i j = .out (i, j) := by
        unfold fB
        rw [decide_eq_false (by omega : ¬ ((i : Nat) : Int) < ((j : Nat) : Int))]; rfl
      have e3 : i = j := by omega
      subst e3
      exact ⟨i, hj, jV k hB, h1, h2⟩
theorem ordL {N : List (U Ln)} (ho : N.Pairwise fun a b => fl a.iv < (e6 b.iv : Int)) {p q : Nat} (h : p < q) (hq : q < N.length) : fl (gt N p).iv < (e6 (gt N q).iv : Int) := by
  have := List.pairwise_iff_getElem.1 ho p q (by omega) hq h
  rw [fU (by omega), fU hq]; exact this
theorem qM {N : List (U Ln)} (hw : ∀ u ∈ N, Wv u.iv) (ho : N.Pairwise fun a b => fl a.iv < (e6 b.iv : Int)) {t : GR} (ht : Tm t) :
    (∃ u ∈ N, inU u.iv (2 * tk t) ∧ bJ N t = (u.f, true)) ∨ ((∀ u ∈ N, ¬ inU u.iv (2 * tk t)) ∧ (bJ N t).2 = false) := by
  have par : ∀ i : Iv, (e6 i = 2 * tk i.lo ∧ i.openLo = false ∨ e6 i = 2 * tk i.lo + 1 ∧ i.openLo = true) ∧ (fl i = 2 * (tk i.hi : Int) ∧ i.openHi = false ∨ fl i = 2 * (tk i.hi : Int) - 1 ∧ i.openHi = true) := fun i => by
    rcases gC i with ⟨a1, a2⟩ | ⟨a1, a2⟩ <;> rcases lA i with ⟨b1, b2⟩ | ⟨b1, b2⟩ <;> simp [a1, a2, b1, b2]
  have hm : ∀ p q, p < q → q < N.length → tk (gt N p).iv.hi ≤ tk (gt N q).iv.hi := fun p q h hq => by
    have h1 := ordL ho h hq
    have h2 := (hw _ (gtmL hq)).le
    have := par (gt N p).iv
    have := par (gt N q).iv
    omega
  have hm2 : ∀ p q, p < q → q < N.length → tk (gt N p).iv.lo ≤ tk (gt N q).iv.lo := fun p q h hq => by
    have h1 := ordL ho h hq
    have h2 := (hw _ (gtmL (by omega : p < N.length))).le
    have := par (gt N p).iv
    have := par (gt N q).iv
    omega
  obtain ⟨m, hmn, hl, i1, i2⟩ := qG (fun u hu => (hw u hu).1) ht hm (N.length - 0 + 1) 0 N.length (by omega) (Nat.zero_le _) (Nat.le_refl _) (fun p hp => by omega) (fun p h1 h2 => by omega)
  have hbs : (gY N t).1 = (m : Int) := by
    unfold gY
    rw [rM hl]; rfl
  unfold bJ
  rw [hbs, Int.toNat_natCast]
  generalize (⟨(⟨(⟨false, 0⟩ : GI), (⟨false, 0⟩ : GI)⟩ : GQ), (⟨(⟨false, 0⟩ : GI), (⟨false, 0⟩ : GI)⟩ : GQ), (⟨(⟨false, 0⟩ : GI), (⟨false, 0⟩ : GI)⟩ : GQ), (⟨(⟨false, 0⟩ : GI), (⟨false, 0⟩ : GI)⟩ : GQ)⟩ : Ln) = z
  obtain ⟨b, b1, b2, b3, b4⟩ := scanL (B := fun s => dW N t s.1 s.2) (fun i => (i, z)) (n := N.length) (brk := fun i => decide ((ao (((gt N i).iv).lo) t) > 0))
    (hit := fun i => ((decide ((ao (((gt N i).iv).lo) t) < 0)) || (!((gt N i).iv).openLo)) && ((!(decide (((gt N i).iv).hi = t))) || (!((gt N i).iv).openHi))) (r := fun i => ((gt N i).f, true)) (o := fun i => (i, z))
    (fun i hi => by
      show dW N t i z = _
      unfold dW
      rw [decide_eq_true (by omega : ((i : Nat) : Int) < ((N.length : Nat) : Int))]; rfl)
    (by
      show dW N t N.length z = _
      unfold dW
      rw [decide_eq_false (by omega : ¬ ((N.length : Nat) : Int) < ((N.length : Nat) : Int))]; rfl) (N.length - m + 1) m hmn (by omega)
  have hk : ∀ i, i < N.length → m ≤ i → decide ((ao (((gt N i).iv).lo) t) > 0) = false →
      ((((decide ((ao (((gt N i).iv).lo) t) < 0)) || (!((gt N i).iv).openLo)) && ((!(decide (((gt N i).iv).hi = t))) || (!((gt N i).iv).openHi))) = true ↔ inU (gt N i).iv (2 * tk t)) := fun i hi hmi hb => by
    have hv := (hw _ (gtmL hi)).1
    rw [hv.1.cmp ht] at hb ⊢
    have h2 := i2 i hmi hi
    have hp := par (gt N i).iv
    have he : decide ((gt N i).iv.hi = t) = decide (tk (gt N i).iv.hi = tk t) := decide_eq_decide.2 (hv.2.inj ht).symm
    rw [he]
    unfold inU
    rcases Nat.lt_trichotomy (tk (gt N i).iv.lo) (tk t) with h1 | h1 | h1
    · rw [iO h1]
      rcases hp with ⟨hp1 | hp1, hp2 | hp2⟩ <;> simp [hp1.1, hp1.2, hp2.1, hp2.2] <;> omega
    · rw [h1, fI]
      rcases hp with ⟨hp1 | hp1, hp2 | hp2⟩ <;> simp [hp1.1, hp1.2, hp2.1, hp2.2] <;> omega
    · rw [jj h1] at hb; cases hb
  rcases b4 with ⟨c1, c2, c3, c4⟩ | ⟨c1, c2⟩
  · exact .inl ⟨gt N b, gtmL c1, (hk b c1 b1 c2).1 c3, fin_r c4⟩
  · right
    refine ⟨fun u hu hi => ?_, by rw [rM c2]; rfl⟩
    obtain ⟨i, hi2, rfl⟩ := memL hu
    have hp := par (gt N i).iv
    have hi1 := hi.1
    have hi3 := hi.2
    by_cases e1 : i < m
    · have := i1 i e1
      omega
    · by_cases e2 : i < b
      · obtain ⟨d1, d2⟩ := b3 i (by omega) e2
        rw [(hk i hi2 (by omega) d1).2 hi] at d2; cases d2
      · rcases c1 with c1 | ⟨c1, c3⟩
        · omega
        · have hv := (hw _ (gtmL c1)).1
          rw [hv.1.cmp ht] at c3
          have h3 : tk t < tk (gt N b).iv.lo := by
            rcases Nat.lt_trichotomy (tk (gt N b).iv.lo) (tk t) with h1 | h1 | h1
            · rw [iO h1] at c3; cases c3
            · rw [h1, fI] at c3; cases c3
            · exact h1
          by_cases e3 : i = b
          · subst e3; omega
          · have := hm2 b i (by omega) hi2
            omega
end
end Go.Sx
