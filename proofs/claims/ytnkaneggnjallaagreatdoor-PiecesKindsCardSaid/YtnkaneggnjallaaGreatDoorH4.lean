/- A part of the proof that the law PiecesKinds answers true at every input and leaves its arguments as they were. -/
import Derived.Test.YtnkaneggnjallaaGreatDoorH3
set_option linter.unusedVariables false
set_option linter.unusedSimpArgs false
open Go.Proofs.Tryz renaming runUnderlying26 → uu26, sizeOf57 → zz57, isAgg57 → aa57, runUnderlying24 → uu24, runUnderlying87 → uu87, sizeOf55 → zz55, isAgg55 → aa55, runUnderlying55 → uu55, sizeOf4 → zz4, isAgg4 → aa4, runUnderlying57 → uu57, sizeOf53 → zz53, isAgg53 → aa53, sizeOf3 → zz3, isAgg3 → aa3, call150 → cc150, isAgg26 → aa26, sizeOf26 → zz26, runUnderlying256 → uu256
namespace Go.Sx
open Go Go.RowKit Go.Proofs
set_option maxRecDepth 100000
set_option maxHeartbeats 40000000
attribute [local irreducible] aF cX ar aL cp aK aM aP du bP aI
def aO (l : List (U Int)) : (List (U Int)) :=
 (dA (cg l (bW l ([]))))
theorem f8 (l : List (U Int)) (lv : Value) (hl : l.length ≤ 100) (zl : All (j9 30) l) (w0 : World) (hlv : View w0 lv l) : Calls Tryz.prog 23 #[(.iface 31 (.agg #[])), lv] w0 (RetR w0 57 (aO l) (All (j9 30) (aO l) ∧ (aO l).length ≤ 4 * l.length)) := by
 refine enter (N := 11) (args := [(.iface 31 (.agg #[])), lv]) Tryz.func23 rfl rfl ?_; intro ac h
 have hlenl := hlv.len
 refine eq fun K1 hK1 => ?_
 refine rd0 h (ak rfl) rfl <| gn hK1 <| gr fun K2 hK2 => g0 (aj rfl) rfl <| g0 (aj rfl) rfl <| g0 (aj rfl) rfl ?_; clear h ac; intro ac wo h
 replace h := h.nilRow (α := GR) 53
 refine on1 h 0 rfl (kM (vs := [lv, (.slice none 0 0)]) (A := fun v => [.row (α := GR) 53 v (bW l ([]))]) (ck Tryz.call90 rfl) (fun w_ B_ hB_ hS_ => jH l lv ([]) (.slice none 0 0) (by first | omega | grind) (by first | omega | grind) zl All.nil w0 w_ B_ hB_ hS_ hlv)) rfl ?_; clear h ac wo; intro sv2 ac wo s3 h
 have p4 := s3.2
 have s5 := RetR.pr ((fun w_ hB_ hS_ => gJ l lv (bW l ([])) sv2 (by first | omega | grind) (by first | omega | grind) zl s3.1 w_ (hlv.below hB_) (row_view hS_ 0 rfl)) _ h.bel h.sep)
 have p6 := s5.2
 have p6_0 := p6.1
 have p6_1 := p6.2
 refine ja (xs := (cg l (bW l ([])))) h (ck Tryz.call89 rfl) (fun w_ hB_ hS_ => gJ l lv (bW l ([])) sv2 (by first | omega | grind) (by first | omega | grind) zl s3.1 w_ (hlv.below hB_) (row_view hS_ 0 rfl)) rfl ?_; clear h ac wo; intro sv7 ac wo _ h
 have s8 := RetR.pr ((fun w_ hB_ hS_ => gI (cg l (bW l ([]))) sv7 (by first | omega | grind) (by first | omega | grind) s5.1 w_ (row_view hS_ 0 rfl)) _ h.bel h.sep)
 have p9 := s8.2
 refine ja (xs := (dA (cg l (bW l ([]))))) h (ck Tryz.call88 rfl) (fun w_ hB_ hS_ => gI (cg l (bW l ([]))) sv7 (by first | omega | grind) (by first | omega | grind) s5.1 w_ (row_view hS_ 0 rfl)) rfl ?_; clear h ac wo; intro sv10 ac wo _ h
 refine rd0 h (ak rfl) rfl <| gn hK2 <| gT ?_; clear h ac wo; intro ac wo h
 exact ret h rfl (.tmp rfl .nil) rfl (by unfold aO; exact h.retR 0 rfl ⟨s8.1, (by first | omega | grind)⟩)
attribute [irreducible] aO
def jn (l : List (U Int)) (by_ : Nat) (out : List (U Int)) (i : Nat) : (List (U Int)) :=
 out
def cn (l : List (U Int)) (by_ : Nat) (out : List (U Int)) (i : Nat) : Nx ((List (U Int)) × Nat) (List (U Int)) :=
 bif (decide (((i : Nat) : Int) < ((l.length : Nat) : Int))) then
  .go (([(gt l ((i + by_) % l.length))] ++ out), (i + 1))
 else
  .out (out, i)
def au (l : List (U Int)) (by_ : Nat) : (List (U Int)) :=
 fin (bI (fun s => cn l by_ s.1 s.2) ((l.length - 0) + 1) ([], 0)) (fun s => jn l by_ s.1 s.2) (fun r => r)
theorem f7 (l : List (U Int)) (lv : Value) (by_ : Nat) (hl : l.length ≤ 1000) (hb : by_ < 256) (zl : All (j9 30) l) (w0 : World) (hlv : View w0 lv l) : Calls Tryz.prog 17 #[lv, (.int .u8 ((by_ : Nat) : Int))] w0 (RetR w0 57 (au l by_) (All (j9 30) (au l by_) ∧ (au l by_).length = l.length)) := by
 refine enter (N := 27) (args := [lv, (.int .u8 ((by_ : Nat) : Int))]) Tryz.func17 rfl rfl ?_; intro ac h
 have hlenl := hlv.len
 refine eq fun K1 hK1 => ?_
 refine rd0 h (ak rfl) rfl <| gn hK1 <| gr fun K2 hK2 => g0 (ak rfl) rfl <| gn hK2 <| gq fun K3 hK3 => gr fun K4 hK4 => g0 (ak rfl) rfl <| gn hK4 <| gB ?_; clear h ac; intro ac wo h
 replace h := h.nilRow (α := U Int) 57
 obtain ⟨X1, hX1⟩ : ∃ X, bI (fun s => cn l by_ s.1 s.2) ((l.length - 0) + 1) ([], 0) = X := ⟨_, rfl⟩
 refine wp_loop_ghost (fun n_ a_ w_ => ∃ (out : List (U Int)) (i : Nat) (outv : Value), ((l.length - i) < n_) ∧ (bI (fun s => cn l by_ s.1 s.2) n_ (out, i) = X1) ∧ (i ≤ l.length) ∧ (All (j9 30) out) ∧ (out.length = i) ∧ St w0 27 [(0, lv), (1, (.int .u8 ((by_ : Nat) : Int))), (5, outv), (6, (.int .i64 ((i : Nat) : Int)))] [.row (α := U Int) 57 outv out] a_ w_) ((l.length - 0) + 1) ⟨[], 0, (.slice none 0 0), (by omega), hX1, (by first | omega | grind), All.nil, (by first | omega | grind), (h.sub ⟨rfl, rfl, rfl, rfl, trivial⟩)⟩ ?_
 clear h ac wo; rintro n1 ac wo ⟨out, i, outv, hm1, hL1, hi, zout, hol, h⟩
 obtain ⟨m1, rfl⟩ : ∃ m, n1 = m + 1 := ⟨n1 - 1, by omega⟩
 refine gz h <| gq fun K5 hK5 => gr fun K6 hK6 => g0 (aj rfl) rfl <| g0 (aj rfl) rfl <| g0 (dy uu26 rfl hlv.sl) rfl <| g0 (dP rfl rfl) rfl <| gn hK6 ?_; clear h ac wo; intro ac wo h
 refine db h rfl (fun hc1 => ?_) (fun hc1 => ?_)
 ·
  have hd1 := of_decide_eq_true hc1
  refine dR ?_
  refine hK5 _ _ ?_
  refine cG fun K7 hK7 => ?_
  refine eR ?_
  refine c_r ?_
  have hmod : (i + by_) % l.length < l.length := Nat.mod_lt _ (by omega)
  refine rd0 h (aj rfl) rfl <| g0 (aj rfl) rfl <| g0 (aj rfl) rfl <| g0 (bo Tryz.runUnderlying5 Tryz.runUnderlying3 rfl (r := ((by_ : Nat) : Int)) (by rw [IntKind.wrap_i64]; first | omega | grind)) rfl <| g0 (bi rfl rfl (r := ((i + by_ : Nat) : Int)) (by rw [IntKind.wrap_i64]; first | omega | grind)) rfl <| g0 (aj rfl) rfl <| g0 (dy uu26 rfl hlv.sl) rfl <| g0 (im rfl rfl (r := ((((i + by_) % l.length) : Nat) : Int)) (by first | decide | omega) (by rw [Int.tmod_eq_emod_of_nonneg (by omega)]; rfl)) rfl <| g0 (cZ (i := ((i + by_) % l.length)) uu26 zz57 rfl rfl (hlv.nn (i := ((i + by_) % l.length)) (by first | omega | grind)) (by first | omega | grind)) rfl <| g0 (d9 (k := 0) aa57 zz57 hlv (bd (by first | omega | grind)) rfl (Nat.add_zero _) rfl rfl (v := (vUI (gt l ((i + by_) % l.length)))) rfl) rfl ?_; clear h ac wo; intro ac wo h
  refine nw h (bF (α := U Int) (xs := [.tmp 22]) (vs := [(vUI (gt l ((i + by_) % l.length)))]) [(gt l ((i + by_) % l.length))] gh rfl rfl rfl (by decide)) rfl ?_; clear h ac wo; intro sv2 ac wo nnsv2 h
  refine rd0 h (aj rfl) rfl ?_; clear h ac wo; intro ac wo h
  refine on2 h 0 0 rfl rfl (dD (xs := [(gt l ((i + by_) % l.length))]) (ys := out) gh (fun w hs => (row_view hs 0 rfl)) rfl rfl (by first | omega | grind)) rfl ?_; clear h ac wo; intro sv3 ac wo apsv3 h
  refine rd0 h (ak rfl) rfl <| gx (fun _ _ => bg) ?_; clear h ac wo; intro ac wo h
  replace h := h.sub (F' := [(0, lv), (1, (.int .u8 ((by_ : Nat) : Int))), (5, sv3), (6, (.int .i64 ((i : Nat) : Int)))]) ⟨rfl, rfl, rfl, rfl, trivial⟩
  refine gz h <| gN <| gx hK7 <| gR <| g0 (aj rfl) rfl <| g0 (bi rfl rfl (r := ((i + 1 : Nat) : Int)) (by rw [IntKind.wrap_i64]; first | omega | grind)) rfl <| g0 (ak rfl) rfl <| gx (fun _ _ => bg) ?_; clear h ac wo; intro ac wo h
  exact aE ⟨m1, (by omega), _, _, _, (by first | omega | grind), bf hL1 (show cn l by_ out i = .go _ from (cT hc1)), (by first | omega | grind), (All.app (All.cons (All.gt zl (dX _)) All.nil) zout), (by first | omega | grind), (h.pick [0] (by decide)).sub ⟨rfl, rfl, rfl, rfl, trivial⟩⟩
 ·
  have hd1 := of_decide_eq_false hc1
  refine dO ?_
  have hx1 := cJ hL1 (show cn l by_ out i = .out (out, i) from (cF hc1))
  refine gz h <| gx hK3 <| gr fun K8 hK8 => g0 (aj rfl) rfl <| g0 (ak rfl) rfl <| gn hK8 <| gT ?_; clear h ac wo; intro ac wo h
  have hd : au l by_ = out := (ee (hX1.trans hx1))
  exact ret h rfl (.tmp rfl .nil) rfl (by rw [hd]; exact h.retR 0 rfl ⟨zout, (by first | omega | grind)⟩)
attribute [irreducible] au
def ij (l : List (U Qd)) (out : List (U Int)) (i : Nat) : (List (U Int)) :=
 out
def cP (l : List (U Qd)) (out : List (U Int)) (i : Nat) : Nx ((List (U Int)) × Nat) (List (U Int)) :=
 bif (decide (((i : Nat) : Int) < ((l.length : Nat) : Int))) then
  .go ((out ++ [(⟨(gt l i).iv, (aL (((gt l i).f).c0))⟩ : U Int)]), (i + 1))
 else
  .out (out, i)
def ap (l : List (U Qd)) : (List (U Int)) :=
 fin (bI (fun s => cP l s.1 s.2) ((l.length - 0) + 1) ([], 0)) (fun s => ij l s.1 s.2) (fun r => r)
theorem fc (l : List (U Qd)) (lv : Value) (hl : l.length ≤ 1000) (zl : All (ll 30) l) (w0 : World) (hlv : View w0 lv l) : Calls Tryz.prog 18 #[lv] w0 (RetR w0 57 (ap l) (All (j9 30) (ap l) ∧ (ap l).length = l.length)) := by
 refine enter (N := 28) (args := [lv]) Tryz.func18 rfl rfl ?_; intro ac h
 have hlenl := hlv.len
 refine eq fun K1 hK1 => ?_
 refine rd0 h (ak rfl) rfl <| gn hK1 <| gr fun K2 hK2 => g0 (ak rfl) rfl <| gn hK2 <| gq fun K3 hK3 => gr fun K4 hK4 => g0 (ak rfl) rfl <| gn hK4 <| gB ?_; clear h ac; intro ac wo h
 replace h := h.nilRow (α := U Int) 57
 obtain ⟨X1, hX1⟩ : ∃ X, bI (fun s => cP l s.1 s.2) ((l.length - 0) + 1) ([], 0) = X := ⟨_, rfl⟩
 refine wp_loop_ghost (fun n_ a_ w_ => ∃ (out : List (U Int)) (i : Nat) (outv : Value), ((l.length - i) < n_) ∧ (bI (fun s => cP l s.1 s.2) n_ (out, i) = X1) ∧ (i ≤ l.length) ∧ (All (j9 30) out) ∧ (out.length = i) ∧ St w0 28 [(0, lv), (3, outv), (4, (.int .i64 ((i : Nat) : Int)))] [.row (α := U Int) 57 outv out] a_ w_) ((l.length - 0) + 1) ⟨[], 0, (.slice none 0 0), (by omega), hX1, (by first | omega | grind), All.nil, (by first | omega | grind), (h.sub ⟨rfl, rfl, rfl, trivial⟩)⟩ ?_
 clear h ac wo; rintro n1 ac wo ⟨out, i, outv, hm1, hL1, hi, zout, hol, h⟩
 obtain ⟨m1, rfl⟩ : ∃ m, n1 = m + 1 := ⟨n1 - 1, by omega⟩
 refine gz h <| gq fun K5 hK5 => gr fun K6 hK6 => g0 (aj rfl) rfl <| g0 (aj rfl) rfl <| g0 (dy uu24 rfl hlv.sl) rfl <| g0 (dP rfl rfl) rfl <| gn hK6 ?_; clear h ac wo; intro ac wo h
 refine db h rfl (fun hc1 => ?_) (fun hc1 => ?_)
 ·
  have hd1 := of_decide_eq_true hc1
  refine dR ?_
  refine hK5 _ _ ?_
  refine cG fun K7 hK7 => ?_
  refine eR ?_
  have p3 := aJ ((dH (((gt l i).f).c0)) w0)
  replace h := h.emps 1
  refine cj mixed [dv _, dv _, dv _, dv _, dv _, dv _, dv _, dv _, dv _, dv _, dv _, dv _, dv _, dv _, ⟨.nd (.one 14 fun v => NN v 1), [1]⟩, ⟨.nd (.con True), [0, 1]⟩, ⟨.nd (.two 16 15 fun a b => a = b), []⟩] [⟨.row (α := U Int) 57 outv out, [(15, .one 15 fun v => .row (α := U Int) 57 v (out ++ [(⟨(gt l i).iv, (aL (((gt l i).f).c0))⟩ : U Int)]))]⟩, ⟨.emp, [(14, .one 14 fun v => .row (α := U Int) 57 v ([(⟨(gt l i).iv, (aL (((gt l i).f).c0))⟩ : U Int)]))]⟩] h rfl (by kernel_rfl) ⟨fun _ _ => om rfl, fun _ _ => om rfl, fun _ _ => om rfl, fun _ _ => az (cZ (i := i) uu24 Tryz.sizeOf87 rfl rfl (hlv.nn (i := i) (by first | omega | grind)) (by first | omega | grind)), fun _ _ => az (fs uu87 rfl zz55 rfl (hlv.nn (i := 0) (by first | omega | grind)) rfl rfl (k' := i * 32 + 0)), fun _ _ => az (d9 (k := 0) aa55 zz55 hlv (bd (by first | omega | grind)) rfl rfl rfl rfl (v := (vV ((gt l i).iv))) rfl), fun _ _ => om rfl, fun _ _ => om rfl, fun _ _ => az (cZ (i := i) uu24 Tryz.sizeOf87 rfl rfl (hlv.nn (i := i) (by first | omega | grind)) (by first | omega | grind)), fun _ _ => az (fs uu87 rfl Tryz.sizeOf69 rfl (hlv.nn (i := 0) (by first | omega | grind)) rfl rfl (k' := i * 32 + 20)), fun _ _ => az (fs Tryz.runUnderlying69 rfl Tryz.sizeOf40 rfl (hlv.nn (i := 0) (by first | omega | grind)) rfl (by first | rfl | (simp only [Nat.add_assoc] <;> rfl)) (k' := i * 32 + 20)), fun _ _ => az (d9 (k := 20) Tryz.isAgg40 Tryz.sizeOf40 hlv (bd (by first | omega | grind)) rfl rfl rfl rfl (v := (vQ (((gt l i).f).c0))) rfl), fun _ _ => eC (dI (ck Tryz.call58 rfl) (kk (dH (((gt l i).f).c0)))), fun _ _ => az (bq oA rfl rfl (v := (vUI (⟨(gt l i).iv, (aL (((gt l i).f).c0))⟩ : U Int))) rfl), fun _ _ => kh (ψ := fun v => NN v 1) (B := fun v => [.row (α := U Int) 57 v ([(⟨(gt l i).iv, (aL (((gt l i).f).c0))⟩ : U Int)])]) [.emp] rfl (fun v _ => by simp only [eB, bn] <;> rfl) (fun v hv => by simpa [DF.one, bn] using hv) (jI (bF (α := U Int) (xs := [.tmp 24]) (vs := [(vUI (⟨(gt l i).iv, (aL (((gt l i).f).c0))⟩ : U Int))]) [(⟨(gt l i).iv, (aL (((gt l i).f).c0))⟩ : U Int)] gh rfl rfl rfl (by decide))), fun ξ hφ => kh (B := fun v => [.row (α := U Int) 57 v (out ++ [(⟨(gt l i).iv, (aL (((gt l i).f).c0))⟩ : U Int)]), .row (α := U Int) 57 (ξ 14) ([(⟨(gt l i).iv, (aL (((gt l i).f).c0))⟩ : U Int)])]) [.row (α := U Int) 57 outv out, .row (α := U Int) 57 (ξ 14) ([(⟨(gt l i).iv, (aL (((gt l i).f).c0))⟩ : U Int)])] rfl (fun v _ => by simp only [eB, bn] <;> rfl) (fun _ _ => trivial) (dD (xs := out) (ys := [(⟨(gt l i).iv, (aL (((gt l i).f).c0))⟩ : U Int)]) gh (fun w hs => (row_view hs 0 rfl)) rfl rfl (by first | omega | grind)), fun ξ hφ => qk (φ := .two 16 15 fun a b => a = b) (v := ξ 15) [] rfl rfl (by show upd ξ 16 (ξ 15) 16 = upd ξ 16 (ξ 15) 15; rw [bn, g8 (by decide)]) (ak rfl), trivial⟩ ?_
  clear h ac wo; intro ξ ac wo hφ h
  replace h : St w0 28 [(0, lv), (3, ξ 16), (4, (.int .i64 ((i : Nat) : Int)))] [.row (α := U Int) 57 (ξ 15) (out ++ [(⟨(gt l i).iv, (aL (((gt l i).f).c0))⟩ : U Int)])] ac wo := (h.pick [0] (by decide)).sub ⟨rfl, rfl, rfl, trivial⟩
  rw [show ξ 16 = ξ 15 from hφ 16] at h
  generalize hsv15 : ξ 15 = sv4 at h; clear hsv15
  clear hφ ξ
  refine gz h <| gN <| gx hK7 <| gR <| g0 (aj rfl) rfl <| g0 (bi rfl rfl (r := ((i + 1 : Nat) : Int)) (by rw [IntKind.wrap_i64]; first | omega | grind)) rfl <| g0 (ak rfl) rfl <| gx (fun _ _ => bg) ?_; clear h ac wo; intro ac wo h
  exact aE ⟨m1, (by omega), _, _, _, (by first | omega | grind), bf hL1 (show cP l out i = .go _ from (cT hc1)), (by first | omega | grind), (All.app zout (All.cons (All.gt zl (cB _)).1 All.nil)), (by first | omega | grind), (h.pick [0] (by decide)).sub ⟨rfl, rfl, rfl, trivial⟩⟩
 ·
  have hd1 := of_decide_eq_false hc1
  refine dO ?_
  have hx1 := cJ hL1 (show cP l out i = .out (out, i) from (cF hc1))
  refine gz h <| gx hK3 <| gr fun K8 hK8 => g0 (aj rfl) rfl <| g0 (ak rfl) rfl <| gn hK8 <| gT ?_; clear h ac wo; intro ac wo h
  have hd : ap l = out := (ee (hX1.trans hx1))
  exact ret h rfl (.tmp rfl .nil) rfl (by rw [hd]; exact h.retR 0 rfl ⟨zout, (by first | omega | grind)⟩)
attribute [irreducible] ap
def bj (s : List (U Int)) : (List (U Int)) := s
theorem eT (s : List (U Int)) (sv : Value) (hl : s.length ≤ 1000) (zs : All (j9 30) s) (w0 : World) (hsv : View w0 sv s) : Calls Tryz.prog 144 #[sv] w0 (RetR w0 57 (bj s) (All (j9 30) (bj s) ∧ (bj s) = s ∧ (bj s).length = s.length)) := by
 refine enter (N := 8) (args := [sv]) Tryz.func144 rfl rfl ?_; intro ac h
 have hlens := hsv.len
 refine eq fun K1 hK1 => ?_
 refine rd0 h (ak rfl) rfl <| gn hK1 <| gq fun K2 hK2 => gr fun K3 hK3 => g0 (aj rfl) rfl <| g0 (oM Tryz.underlying26 hsv.sl rfl) rfl <| gn hK3 ?_; clear h ac; intro ac wo h
 refine db h rfl (fun hc1 => ?_) (fun hc1 => ?_)
 ·
  have hq1 := hc1; try simp at hq1
  refine gz h <| gr fun K4 hK4 => g0 (ak rfl) rfl <| gn hK4 <| gT ?_; clear h ac wo; intro ac wo h
  replace h := h.nilRow (α := U Int) 57
  have hd : bj s = [] := (hsv.nil hc1).1
  exact ret h rfl (.tmp rfl .nil) rfl (by rw [hd]; exact h.retR 0 rfl ⟨All.nil, ⟨(hsv.nil hc1).1.symm, by rw [(hsv.nil hc1).1]⟩⟩)
 ·
  have hq1 := hc1; try simp at hq1
  refine dR ?_
  refine hK2 _ _ ?_
  refine eq fun K5 hK5 => ?_
  refine nw h (bF (α := U Int) (xs := []) (vs := []) [] gh rfl rfl rfl (by decide)) rfl ?_; clear h ac wo; intro sv2 ac wo nnsv2 h
  refine rd0 h (aj rfl) rfl ?_; clear h ac wo; intro ac wo h
  refine on1 h 0 rfl (qw (xs := []) (ys := s) gh hsv rfl rfl (by first | omega | grind)) rfl ?_; clear h ac wo; intro sv3 ac wo apsv3 h
  refine rd0 h (ak rfl) rfl <| gn hK5 <| gT ?_; clear h ac wo; intro ac wo h
  exact ret h rfl (.tmp rfl .nil) rfl (by unfold bj; exact h.retR 0 rfl ⟨(All.app All.nil zs), ⟨rfl, rfl⟩⟩)
attribute [irreducible] bj
def ba (i : Iv) : Int :=
 bif i.openLo then
  1
 else
  0
theorem eK (i : Iv) (zi : SzV 30 i) (w0 : World)  : Calls Tryz.prog 147 #[(vV i)] w0 (eX w0 (.int .i64 (ba i)) ((-1 ≤ (ba i) ∧ (ba i) ≤ 1))) := by
 refine enter (N := 5) (args := [(vV i)]) Tryz.func147 rfl rfl ?_; intro ac h
 refine eq fun K1 hK1 => ?_
 refine bx h (cV i) rfl rfl rfl fun b1 => g0 (ak rfl) rfl <| gn hK1 <| gq fun K2 hK2 => gr fun K3 hK3 => g0 (fa uu55 rfl zz4 rfl rfl rfl (k' := 18)) rfl <| g1 0 rfl (aV aa4 zz4 rfl rfl rfl (v := (.bool i.openLo)) rfl) rfl <| gn hK3 ?_; clear h ac; intro ac wo h
 refine db h rfl (fun hc1 => ?_) (fun hc1 => ?_)
 ·
  have hq1 := hc1; try simp at hq1
  refine gz h <| gr fun K4 hK4 => g0 (ak rfl) rfl <| gn hK4 <| gT ?_; clear h ac wo; intro ac wo h
  have hd : ba i = 1 := (cT hc1)
  exact ret h rfl (.tmp rfl .nil) rfl (h.retP (by rw [hd] <;> rfl) (by rw [hd]; exact (by first | omega | grind)))
 ·
  have hq1 := hc1; try simp at hq1
  refine gz h <| gS <| gx hK2 <| gr fun K5 hK5 => g0 (ak rfl) rfl <| gn hK5 <| gT ?_; clear h ac wo; intro ac wo h
  have hd : ba i = 0 := (cF hc1)
  exact ret h rfl (.tmp rfl .nil) rfl (h.retP (by rw [hd] <;> rfl) (by rw [hd]; exact (by first | omega | grind)))
attribute [irreducible] ba
def eH (l : List (U Int)) (t : GR) : Bool :=
 (((decide (((l.length : Nat) : Int) > 0)) && (decide (((gt l (l.length - 1)).iv).hi = t))) && (!((gt l (l.length - 1)).iv).openHi))
theorem jh (l : List (U Int)) (lv : Value) (t : GR) (zl : All (j9 30) l) (zt : SzR 30 t) (w0 : World) (hlv : View w0 lv l) : Calls Tryz.prog 84 #[lv, (vR t)] w0 (eX w0 (.bool (eH l t)) (True)) := by
 refine enter (N := 31) (args := [lv, (vR t)]) Tryz.func84 rfl rfl ?_; intro ac h
 have hlenl := hlv.len
 refine eq fun K1 hK1 => ?_
 refine bx h (cR t) rfl rfl rfl fun b1 => g0 (ak rfl) rfl <| gn hK1 <| gr fun K2 hK2 => g0 (aj rfl) rfl <| g0 (dy uu26 rfl hlv.sl) rfl <| g0 (ak rfl) rfl <| gn hK2 <| gq fun K3 hK3 => ?_; clear h ac; intro ac wo h
 refine cj mixed [dv _, dv _, dv _, dv _, dv _, dv _, dv _, dv _, dv _, dv _, dw _ [0], dv _, dv _, dv _, dv _, dv _, dv _, dv _, dv _, dv _, dv _, dv _, dv _, dv _] [⟨_, []⟩] h rfl (by kernel_rfl) ⟨fun _ _ => om rfl, fun _ _ => az (iK rfl rfl), fun _ _ => om rfl, fun _ _ => oh rfl rfl rfl rfl (fun hg => aj rfl), fun _ _ => oh rfl rfl rfl rfl (fun hg => aj rfl), fun _ _ => oh rfl rfl rfl rfl (fun hg => dk (ao rfl hg) rfl (r := (((l.length - 1) : Nat) : Int)) (by rw [IntKind.wrap_i64]; first | omega | (simp at hg; omega) | grind)), fun _ _ => oh rfl rfl rfl rfl (fun hg => cZ (i := (l.length - 1)) uu26 zz57 (ao rfl hg) (ao rfl hg) (hlv.nn (i := (l.length - 1)) (by first | omega | (simp at hg; omega) | grind)) (by first | omega | (simp at hg; omega) | grind)), fun _ _ => oh rfl rfl rfl rfl (fun hg => dh uu57 rfl zz55 (by decide) (hlv.nn (i := 0) (by first | omega | (simp at hg; omega) | grind)) (ao rfl hg) rfl (k' := (l.length - 1) * 21 + 0)), fun _ _ => oh rfl rfl rfl rfl (fun hg => dh uu55 rfl zz53 (by decide) (hlv.nn (i := 0) (by first | omega | (simp at hg; omega) | grind)) (ao rfl hg) (by first | rfl | (simp only [Nat.add_assoc] <;> rfl)) (k' := (l.length - 1) * 21 + 9)), fun _ _ => oh rfl rfl rfl rfl (fun hg => d9 (k := 9) aa53 zz53 hlv (bd (by first | omega | (simp at hg; omega) | grind)) (ao rfl hg) rfl rfl rfl (v := (vR (((gt l (l.length - 1)).iv).hi))) rfl), fun _ _ => oh rfl rfl rfl rfl (fun hg => aV aa53 zz53 rfl rfl rfl (v := (vR t)) rfl), fun _ _ => oh rfl rfl rfl rfl (fun hg => eY jT (ao rfl hg) (ao rfl hg)), fun _ _ => az (da rfl (fun e => (ao rfl e))), fun _ _ => om rfl, fun _ _ => oh rfl rfl rfl rfl (fun hg => aj rfl), fun _ _ => oh rfl rfl rfl rfl (fun hg => aj rfl), fun _ _ => oh rfl rfl rfl rfl (fun hg => dk (ao rfl hg) rfl (r := (((l.length - 1) : Nat) : Int)) (by rw [IntKind.wrap_i64]; first | omega | (simp at hg; omega) | grind)), fun _ _ => oh rfl rfl rfl rfl (fun hg => cZ (i := (l.length - 1)) uu26 zz57 (ao rfl hg) (ao rfl hg) (hlv.nn (i := (l.length - 1)) (by first | omega | (simp at hg; omega) | grind)) (by first | omega | (simp at hg; omega) | grind)), fun _ _ => oh rfl rfl rfl rfl (fun hg => dh uu57 rfl zz55 (by decide) (hlv.nn (i := 0) (by first | omega | (simp at hg; omega) | grind)) (ao rfl hg) rfl (k' := (l.length - 1) * 21 + 0)), fun _ _ => oh rfl rfl rfl rfl (fun hg => dh uu55 rfl zz4 (by decide) (hlv.nn (i := 0) (by first | omega | (simp at hg; omega) | grind)) (ao rfl hg) (by first | rfl | (simp only [Nat.add_assoc] <;> rfl)) (k' := (l.length - 1) * 21 + 19)), fun _ _ => oh rfl rfl rfl rfl (fun hg => d9 (k := 19) aa4 zz4 hlv (bd (by first | omega | (simp at hg; omega) | grind)) (ao rfl hg) rfl rfl rfl (v := (.bool (((gt l (l.length - 1)).iv).openHi))) rfl), fun _ _ => oh rfl rfl rfl rfl (fun hg => er (ao rfl hg)), fun _ _ => az (da rfl (fun e => (ao rfl e))), fun _ _ => az (ak rfl), trivial⟩ ?_
 clear h ac wo; intro ξ ac wo hφ h
 replace h : St w0 31 [(4, (.bool (((decide (((l.length : Nat) : Int) > 0)) && (decide (((gt l (l.length - 1)).iv).hi = t))) && (!((gt l (l.length - 1)).iv).openHi))))] [.blk b1 (cR t) 53] ac wo := (h.pick [0] (by decide)).sub ⟨rfl, trivial⟩
 clear hφ ξ
 refine hK3 _ _ ?_
 refine fU ?_
 exact ret h rfl (.tmp rfl .nil) rfl (h.retP (by unfold eH; rfl) trivial)
attribute [irreducible] eH
def gF (l : List (U Int)) (x10 : Nat) (out : List (U Int)) : (List (U Int)) :=
 out
def cc (l : List (U Int)) (x10 : Nat) (out : List (U Int)) : Nx (Nat × (List (U Int))) (List (U Int)) :=
 bif (decide (((x10 : Nat) : Int) < ((l.length : Nat) : Int))) then
  bif (!((gt l x10).iv).openLo) then
   bif (aI ((gt l x10).iv)) then
    .go ((x10 + 1), (out ++ [(⟨(⟨((gt l x10).iv).lo, ((gt l x10).iv).lo, false, false⟩ : Iv), (gt l x10).f⟩ : U Int)]))
   else
    bif (!((gt l x10).iv).openHi) then
     .go ((x10 + 1), (((out ++ [(⟨(⟨((gt l x10).iv).lo, ((gt l x10).iv).lo, false, false⟩ : Iv), (gt l x10).f⟩ : U Int)]) ++ [(⟨(⟨((gt l x10).iv).lo, ((gt l x10).iv).hi, true, true⟩ : Iv), (gt l x10).f⟩ : U Int)]) ++ [(⟨(⟨((gt l x10).iv).hi, ((gt l x10).iv).hi, false, false⟩ : Iv), (gt l x10).f⟩ : U Int)]))
    else
     .go ((x10 + 1), ((out ++ [(⟨(⟨((gt l x10).iv).lo, ((gt l x10).iv).lo, false, false⟩ : Iv), (gt l x10).f⟩ : U Int)]) ++ [(⟨(⟨((gt l x10).iv).lo, ((gt l x10).iv).hi, true, true⟩ : Iv), (gt l x10).f⟩ : U Int)]))
  else
   bif (aI ((gt l x10).iv)) then
    .go ((x10 + 1), out)
   else
    bif (!((gt l x10).iv).openHi) then
     .go ((x10 + 1), ((out ++ [(⟨(⟨((gt l x10).iv).lo, ((gt l x10).iv).hi, true, true⟩ : Iv), (gt l x10).f⟩ : U Int)]) ++ [(⟨(⟨((gt l x10).iv).hi, ((gt l x10).iv).hi, false, false⟩ : Iv), (gt l x10).f⟩ : U Int)]))
    else
     .go ((x10 + 1), (out ++ [(⟨(⟨((gt l x10).iv).lo, ((gt l x10).iv).hi, true, true⟩ : Iv), (gt l x10).f⟩ : U Int)]))
 else
  .out (x10, out)
def ag (l : List (U Int)) : (List (U Int)) :=
 fin (bI (fun s => cc l s.1 s.2) ((l.length - 0) + 1) (0, [])) (fun s => gF l s.1 s.2) (fun r => r)
theorem iU (l : List (U Int)) (lv : Value) (hl : l.length ≤ 1000) (zl : All (j9 30) l) (w0 : World) (hlv : View w0 lv l) : Calls Tryz.prog 82 #[lv] w0 (RetR w0 57 (ag l) (All (j9 30) (ag l) ∧ (ag l).length ≤ 3 * l.length)) := by
 refine enter (N := 54) (args := [lv]) Tryz.func82 rfl rfl ?_; intro ac h
 have hlenl := hlv.len
 refine eq fun K1 hK1 => ?_
 refine rd0 h (ak rfl) rfl <| gn hK1 <| gr fun K2 hK2 => ga [.slice none 0 0] Tryz.zeroValue26 rfl rfl fun b1 => gn hK2 <| gr fun K3 hK3 => g0 (ls rfl) rfl <| g0 (ak rfl) rfl <| gn hK3 <| gq fun K4 hK4 => gr fun K5 hK5 => g0 (aj rfl) rfl <| g0 (dy uu26 rfl hlv.sl) rfl <| g0 (aj rfl) rfl <| gn hK5 <| gB ?_; clear h ac; intro ac wo h
 replace h := h.nilRow (α := U Int) 57
 obtain ⟨X1, hX1⟩ : ∃ X, bI (fun s => cc l s.1 s.2) ((l.length - 0) + 1) (0, []) = X := ⟨_, rfl⟩
 refine wp_loop_ghost (fun n_ a_ w_ => ∃ (x10 : Nat) (out : List (U Int)) (outv : Value), ((l.length - x10) < n_) ∧ (bI (fun s => cc l s.1 s.2) n_ (x10, out) = X1) ∧ (x10 ≤ l.length) ∧ (All (j9 30) out) ∧ (out.length ≤ 3 * x10) ∧ St w0 54 [(3, (ptr b1 0)), (4, (.func (.func 150) #[] #[(ptr b1 0)])), (8, lv), (9, (.int .i64 ((l.length : Nat) : Int))), (10, (.int .i64 ((x10 : Nat) : Int)))] [.row (α := U Int) 57 outv out, .blk b1 [outv] 26] a_ w_) ((l.length - 0) + 1) ⟨0, [], (.slice none 0 0), (by omega), hX1, (by first | omega | grind), All.nil, (by first | omega | grind), (h.sub ⟨rfl, rfl, rfl, rfl, rfl, trivial⟩)⟩ ?_
 clear h ac wo; rintro n1 ac wo ⟨x10, out, outv, hm1, hL1, hx10, zout, hol, h⟩
 obtain ⟨m1, rfl⟩ : ∃ m, n1 = m + 1 := ⟨n1 - 1, by omega⟩
 refine gz h <| gr fun K6 hK6 => g0 (dP rfl rfl) rfl <| gn hK6 <| gq fun K7 hK7 => ?_; clear h ac wo; intro ac wo h
 refine db h rfl (fun hc1 => ?_) (fun hc1 => ?_)
 ·
  have hd1 := of_decide_eq_true hc1
  refine gz h <| gS <| gx hK7 <| gq fun K8 hK8 => gB <| gr fun K9 hK9 => g0 (cZ (i := x10) uu26 zz57 rfl rfl (hlv.nn (i := x10) (by first | omega | grind)) (by first | omega | grind)) rfl <| g0 (d9 (k := 0) aa57 zz57 hlv (bd (by first | omega | grind)) rfl (Nat.add_zero _) rfl rfl (v := (vUI (gt l x10))) rfl) rfl <| ga (cUI (⟨(⟨(⟨oQ, oQ, false⟩ : GR), (⟨oQ, oQ, false⟩ : GR), false, false⟩ : Iv), 0⟩ : U Int)) Tryz.zeroValue57 rfl rfl fun b2 => gs 0 (cUI (gt l x10)) rfl zz57 rfl rfl rfl rfl rfl rfl rfl <| gn hK9 <| gq fun K10 hK10 => gr fun K11 hK11 => g0 (fa uu57 rfl zz55 rfl rfl rfl (k' := 0)) rfl <| g0 (fa uu55 rfl zz4 rfl rfl rfl (k' := 18)) rfl <| g1 0 rfl (aV aa4 zz4 rfl rfl rfl (v := (.bool (((gt l x10).iv).openLo))) rfl) rfl <| g0 (er rfl) rfl <| gn hK11 ?_; clear h ac wo; intro ac wo h
  refine db h rfl (fun hc2 => ?_) (fun hc2 => ?_)
  ·
   have hq2 := hc2; try simp at hq2
   refine gz h <| gR <| g0 (aj rfl) rfl <| g0 (fa uu57 rfl zz55 rfl rfl rfl (k' := 0)) rfl <| g0 (fa uu55 rfl zz53 rfl rfl rfl (k' := 0)) rfl <| g1 0 rfl (aV aa53 zz53 rfl rfl rfl (v := (vR (((gt l x10).iv).lo))) rfl) rfl <| g0 (fa uu57 rfl zz3 rfl rfl rfl (k' := 20)) rfl <| g1 0 rfl (aV aa3 zz3 rfl rfl rfl (v := (.int .i64 ((gt l x10).f))) rfl) rfl ?_; clear h ac wo; intro ac wo h
   refine inl (vs := [(vR (((gt l x10).iv).lo)), (.int .i64 ((gt l x10).f)), (ptr b1 0)]) (M := 13) h (j8 (vs := [(vR (((gt l x10).iv).lo)), (.int .i64 ((gt l x10).f))]) (cap := [(ptr b1 0)]) cc150 rfl rfl) Tryz.func150 rfl rfl rfl ?_
   clear h ac; intro R1 hR1 ac h
   refine gz h <| gr fun K12 hK12 => gb (cR (((gt l x10).iv).lo)) rfl rfl rfl fun b3 => gn hK12 <| gR <| g1 3 rfl (aV aa26 zz26 rfl rfl rfl (v := outv) rfl) rfl <| g1 0 rfl (aV aa53 zz53 rfl rfl rfl (v := (vR (((gt l x10).iv).lo))) rfl) rfl <| g1 0 rfl (aV aa53 zz53 rfl rfl rfl (v := (vR (((gt l x10).iv).lo))) rfl) rfl <| g0 (bq jb rfl rfl (v := (vV (⟨((gt l x10).iv).lo, ((gt l x10).iv).lo, false, false⟩ : Iv))) rfl) rfl <| g0 (aj rfl) rfl <| g0 (bq oA rfl rfl (v := (vUI (⟨(⟨((gt l x10).iv).lo, ((gt l x10).iv).lo, false, false⟩ : Iv), (gt l x10).f⟩ : U Int))) rfl) rfl ?_; clear h ac wo; intro ac wo h
   refine nw h (bF (α := U Int) (xs := [.tmp 10]) (vs := [(vUI (⟨(⟨((gt l x10).iv).lo, ((gt l x10).iv).lo, false, false⟩ : Iv), (gt l x10).f⟩ : U Int))]) [(⟨(⟨((gt l x10).iv).lo, ((gt l x10).iv).lo, false, false⟩ : Iv), (gt l x10).f⟩ : U Int)] gh rfl rfl rfl (by decide)) rfl ?_; clear h ac wo; intro sv2 ac wo nnsv2 h
   refine on2 h 3 0 rfl rfl (dD (xs := out) (ys := [(⟨(⟨((gt l x10).iv).lo, ((gt l x10).iv).lo, false, false⟩ : Iv), (gt l x10).f⟩ : U Int)]) gh (fun w hs => (row_view hs 0 rfl)) rfl rfl (by first | omega | grind)) rfl ?_; clear h ac wo; intro sv3 ac wo apsv3 h
   refine st h 4 [sv3] rfl zz26 rfl rfl (fA (h.row_sl 0 rfl)) rfl (iQ (h.row_sl 0 rfl)) rfl rfl <| gx (fun _ _ => bg) ?_; clear h ac wo; intro ac wo h
   refine nK (rs := []) (vs := []) h rfl .nil rfl (hR1 _ _ _ h.bel h.sep ?_)
   clear h ac hR1; intro ac h
   refine gz h <| gn hK10 <| gq fun K13 hK13 => gr fun K14 hK14 => g0 (fa uu57 rfl zz55 rfl rfl rfl (k' := 0)) rfl <| g1 3 rfl (aV aa55 zz55 rfl rfl rfl (v := (vV ((gt l x10).iv))) rfl) rfl <| gc (ck Tryz.call83 rfl) (kk (bN ((gt l x10).iv))) rfl <| gn hK14 ?_; clear h ac wo; intro ac wo h
   replace h := h.sub (F' := [(3, (ptr b1 0)), (4, (.func (.func 150) #[] #[(ptr b1 0)])), (8, lv), (9, (.int .i64 ((l.length : Nat) : Int))), (10, (.int .i64 ((x10 : Nat) : Int))), (6, (ptr b2 0)), (27, (.bool (aI ((gt l x10).iv))))]) ⟨rfl, rfl, rfl, rfl, rfl, rfl, rfl, trivial⟩
   refine db h rfl (fun hc3 => ?_) (fun hc3 => ?_)
   ·
    have hq3 := hc3; try simp at hq3
    refine gz h <| gE <| gx hK8 <| gR <| g0 (bi rfl rfl (r := ((x10 + 1 : Nat) : Int)) (by rw [IntKind.wrap_i64]; first | omega | grind)) rfl <| g0 (aj rfl) rfl <| gx (fun _ _ => bg) ?_; clear h ac wo; intro ac wo h
    exact aE ⟨m1, (by omega), _, _, _, (by first | omega | grind), bf hL1 (show cc l x10 out = .go _ from (Eq.trans (cT hc1) (Eq.trans (cT hc2) (cT hc3)))), (by first | omega | grind), (All.app zout (All.cons ⟨(All.gt zl (dX _)).1, (All.gt zl (dX _)).1⟩ All.nil)), (by first | omega | grind), (h.pick [0, 4] (by decide)).sub ⟨rfl, rfl, rfl, rfl, rfl, trivial⟩⟩
   ·
    have hq3 := hc3; try simp at hq3
    refine gz h <| gS <| gx hK13 <| gr fun K15 hK15 => g1 4 rfl (aV aa26 zz26 rfl rfl rfl (v := sv3) rfl) rfl <| g0 (fa uu57 rfl zz55 rfl rfl rfl (k' := 0)) rfl <| g0 (fa uu55 rfl zz53 rfl rfl rfl (k' := 0)) rfl <| g1 3 rfl (aV aa53 zz53 rfl rfl rfl (v := (vR (((gt l x10).iv).lo))) rfl) rfl <| g0 (fa uu57 rfl zz55 rfl rfl rfl (k' := 0)) rfl <| g0 (fa uu55 rfl zz53 rfl rfl rfl (k' := 9)) rfl <| g1 3 rfl (aV aa53 zz53 rfl rfl rfl (v := (vR (((gt l x10).iv).hi))) rfl) rfl <| g0 (bq jb rfl rfl (v := (vV (⟨((gt l x10).iv).lo, ((gt l x10).iv).hi, true, true⟩ : Iv))) rfl) rfl <| g0 (fa uu57 rfl zz3 rfl rfl rfl (k' := 20)) rfl <| g1 3 rfl (aV aa3 zz3 rfl rfl rfl (v := (.int .i64 ((gt l x10).f))) rfl) rfl <| g0 (bq oA rfl rfl (v := (vUI (⟨(⟨((gt l x10).iv).lo, ((gt l x10).iv).hi, true, true⟩ : Iv), (gt l x10).f⟩ : U Int))) rfl) rfl ?_; clear h ac wo; intro ac wo h
    refine nw h (bF (α := U Int) (xs := [.tmp 38]) (vs := [(vUI (⟨(⟨((gt l x10).iv).lo, ((gt l x10).iv).hi, true, true⟩ : Iv), (gt l x10).f⟩ : U Int))]) [(⟨(⟨((gt l x10).iv).lo, ((gt l x10).iv).hi, true, true⟩ : Iv), (gt l x10).f⟩ : U Int)] gh rfl rfl rfl (by decide)) rfl ?_; clear h ac wo; intro sv4 ac wo nnsv4 h
    refine on2 h 1 0 rfl rfl (dD (xs := (out ++ [(⟨(⟨((gt l x10).iv).lo, ((gt l x10).iv).lo, false, false⟩ : Iv), (gt l x10).f⟩ : U Int)])) (ys := [(⟨(⟨((gt l x10).iv).lo, ((gt l x10).iv).hi, true, true⟩ : Iv), (gt l x10).f⟩ : U Int)]) gh (fun w hs => (row_view hs 0 rfl)) rfl rfl (by first | omega | grind)) rfl ?_; clear h ac wo; intro sv5 ac wo apsv5 h
    refine st h 5 [sv5] rfl zz26 rfl rfl (fA (h.row_sl 0 rfl)) rfl (iQ (h.row_sl 0 rfl)) rfl rfl <| gn hK15 <| gr fun K16 hK16 => g0 (fa uu57 rfl zz55 rfl rfl rfl (k' := 0)) rfl <| g0 (fa uu55 rfl zz4 rfl rfl rfl (k' := 19)) rfl <| g1 4 rfl (aV aa4 zz4 rfl rfl rfl (v := (.bool (((gt l x10).iv).openHi))) rfl) rfl <| g0 (er rfl) rfl <| gn hK16 ?_; clear h ac wo; intro ac wo h
    replace h := h.sub (F' := [(3, (ptr b1 0)), (4, (.func (.func 150) #[] #[(ptr b1 0)])), (8, lv), (9, (.int .i64 ((l.length : Nat) : Int))), (10, (.int .i64 ((x10 : Nat) : Int))), (6, (ptr b2 0)), (44, (.bool (!((gt l x10).iv).openHi)))]) ⟨rfl, rfl, rfl, rfl, rfl, rfl, rfl, trivial⟩
    refine db h rfl (fun hc4 => ?_) (fun hc4 => ?_)
    ·
     have hq4 := hc4; try simp at hq4
     refine gz h <| gR <| g0 (aj rfl) rfl <| g0 (fa uu57 rfl zz55 rfl rfl rfl (k' := 0)) rfl <| g0 (fa uu55 rfl zz53 rfl rfl rfl (k' := 9)) rfl <| g1 4 rfl (aV aa53 zz53 rfl rfl rfl (v := (vR (((gt l x10).iv).hi))) rfl) rfl <| g0 (fa uu57 rfl zz3 rfl rfl rfl (k' := 20)) rfl <| g1 4 rfl (aV aa3 zz3 rfl rfl rfl (v := (.int .i64 ((gt l x10).f))) rfl) rfl ?_; clear h ac wo; intro ac wo h
     refine inl (vs := [(vR (((gt l x10).iv).hi)), (.int .i64 ((gt l x10).f)), (ptr b1 0)]) (M := 13) h (j8 (vs := [(vR (((gt l x10).iv).hi)), (.int .i64 ((gt l x10).f))]) (cap := [(ptr b1 0)]) cc150 rfl rfl) Tryz.func150 rfl rfl rfl ?_
     clear h ac; intro R2 hR2 ac h
     refine gz h <| gr fun K17 hK17 => gb (cR (((gt l x10).iv).hi)) rfl rfl rfl fun b4 => gn hK17 <| gR <| g1 6 rfl (aV aa26 zz26 rfl rfl rfl (v := sv5) rfl) rfl <| g1 0 rfl (aV aa53 zz53 rfl rfl rfl (v := (vR (((gt l x10).iv).hi))) rfl) rfl <| g1 0 rfl (aV aa53 zz53 rfl rfl rfl (v := (vR (((gt l x10).iv).hi))) rfl) rfl <| g0 (bq jb rfl rfl (v := (vV (⟨((gt l x10).iv).hi, ((gt l x10).iv).hi, false, false⟩ : Iv))) rfl) rfl <| g0 (aj rfl) rfl <| g0 (bq oA rfl rfl (v := (vUI (⟨(⟨((gt l x10).iv).hi, ((gt l x10).iv).hi, false, false⟩ : Iv), (gt l x10).f⟩ : U Int))) rfl) rfl ?_; clear h ac wo; intro ac wo h
     refine nw h (bF (α := U Int) (xs := [.tmp 10]) (vs := [(vUI (⟨(⟨((gt l x10).iv).hi, ((gt l x10).iv).hi, false, false⟩ : Iv), (gt l x10).f⟩ : U Int))]) [(⟨(⟨((gt l x10).iv).hi, ((gt l x10).iv).hi, false, false⟩ : Iv), (gt l x10).f⟩ : U Int)] gh rfl rfl rfl (by decide)) rfl ?_; clear h ac wo; intro sv6 ac wo nnsv6 h
     refine on2 h 2 0 rfl rfl (dD (xs := ((out ++ [(⟨(⟨((gt l x10).iv).lo, ((gt l x10).iv).lo, false, false⟩ : Iv), (gt l x10).f⟩ : U Int)]) ++ [(⟨(⟨((gt l x10).iv).lo, ((gt l x10).iv).hi, true, true⟩ : Iv), (gt l x10).f⟩ : U Int)])) (ys := [(⟨(⟨((gt l x10).iv).hi, ((gt l x10).iv).hi, false, false⟩ : Iv), (gt l x10).f⟩ : U Int)]) gh (fun w hs => (row_view hs 0 rfl)) rfl rfl (by first | omega | grind)) rfl ?_; clear h ac wo; intro sv7 ac wo apsv7 h
     refine st h 7 [sv7] rfl zz26 rfl rfl (fA (h.row_sl 0 rfl)) rfl (iQ (h.row_sl 0 rfl)) rfl rfl <| gx (fun _ _ => bg) ?_; clear h ac wo; intro ac wo h
     refine nK (rs := []) (vs := []) h rfl .nil rfl (hR2 _ _ _ h.bel h.sep ?_)
     clear h ac hR2; intro ac h
     refine gz h <| gx (fun _ _ => bg) <| gN <| gx hK8 <| gR <| g0 (bi rfl rfl (r := ((x10 + 1 : Nat) : Int)) (by rw [IntKind.wrap_i64]; first | omega | grind)) rfl <| g0 (aj rfl) rfl <| gx (fun _ _ => bg) ?_; clear h ac wo; intro ac wo h
     exact aE ⟨m1, (by omega), _, _, _, (by first | omega | grind), bf hL1 (show cc l x10 out = .go _ from (Eq.trans (cT hc1) (Eq.trans (cT hc2) (Eq.trans (cF hc3) (cT hc4))))), (by first | omega | grind), (All.app (All.app (All.app zout (All.cons ⟨(All.gt zl (dX _)).1, (All.gt zl (dX _)).1⟩ All.nil)) (All.cons ⟨(All.gt zl (dX _)).1, (All.gt zl (dX _)).2⟩ All.nil)) (All.cons ⟨(All.gt zl (dX _)).2, (All.gt zl (dX _)).2⟩ All.nil)), (by first | omega | grind), (h.pick [0, 7] (by decide)).sub ⟨rfl, rfl, rfl, rfl, rfl, trivial⟩⟩
    ·
     have hq4 := hc4; try simp at hq4
     refine gz h <| gS <| gN <| gx hK8 <| gR <| g0 (bi rfl rfl (r := ((x10 + 1 : Nat) : Int)) (by rw [IntKind.wrap_i64]; first | omega | grind)) rfl <| g0 (aj rfl) rfl <| gx (fun _ _ => bg) ?_; clear h ac wo; intro ac wo h
     exact aE ⟨m1, (by omega), _, _, _, (by first | omega | grind), bf hL1 (show cc l x10 out = .go _ from (Eq.trans (cT hc1) (Eq.trans (cT hc2) (Eq.trans (cF hc3) (cF hc4))))), (by first | omega | grind), (All.app (All.app zout (All.cons ⟨(All.gt zl (dX _)).1, (All.gt zl (dX _)).1⟩ All.nil)) (All.cons ⟨(All.gt zl (dX _)).1, (All.gt zl (dX _)).2⟩ All.nil)), (by first | omega | grind), (h.pick [0, 5] (by decide)).sub ⟨rfl, rfl, rfl, rfl, rfl, trivial⟩⟩
  ·
   have hq2 := hc2; try simp at hq2
   refine gz h <| gS <| gx hK10 <| gq fun K18 hK18 => gr fun K19 hK19 => g0 (fa uu57 rfl zz55 rfl rfl rfl (k' := 0)) rfl <| g1 0 rfl (aV aa55 zz55 rfl rfl rfl (v := (vV ((gt l x10).iv))) rfl) rfl <| gc (ck Tryz.call83 rfl) (kk (bN ((gt l x10).iv))) rfl <| gn hK19 ?_; clear h ac wo; intro ac wo h
   refine db h rfl (fun hc5 => ?_) (fun hc5 => ?_)
   ·
    have hq5 := hc5; try simp at hq5
    refine gz h <| gE <| gx hK8 <| gR <| g0 (bi rfl rfl (r := ((x10 + 1 : Nat) : Int)) (by rw [IntKind.wrap_i64]; first | omega | grind)) rfl <| g0 (aj rfl) rfl <| gx (fun _ _ => bg) ?_; clear h ac wo; intro ac wo h
    exact aE ⟨m1, (by omega), _, _, _, (by first | omega | grind), bf hL1 (show cc l x10 out = .go _ from (Eq.trans (cT hc1) (Eq.trans (cF hc2) (cT hc5)))), (by first | omega | grind), zout, (by first | omega | grind), (h.pick [1, 2] (by decide)).sub ⟨rfl, rfl, rfl, rfl, rfl, trivial⟩⟩
   ·
    have hq5 := hc5; try simp at hq5
    refine gz h <| gS <| gx hK18 <| gr fun K20 hK20 => g1 2 rfl (aV aa26 zz26 rfl rfl rfl (v := outv) rfl) rfl <| g0 (fa uu57 rfl zz55 rfl rfl rfl (k' := 0)) rfl <| g0 (fa uu55 rfl zz53 rfl rfl rfl (k' := 0)) rfl <| g1 0 rfl (aV aa53 zz53 rfl rfl rfl (v := (vR (((gt l x10).iv).lo))) rfl) rfl <| g0 (fa uu57 rfl zz55 rfl rfl rfl (k' := 0)) rfl <| g0 (fa uu55 rfl zz53 rfl rfl rfl (k' := 9)) rfl <| g1 0 rfl (aV aa53 zz53 rfl rfl rfl (v := (vR (((gt l x10).iv).hi))) rfl) rfl <| g0 (bq jb rfl rfl (v := (vV (⟨((gt l x10).iv).lo, ((gt l x10).iv).hi, true, true⟩ : Iv))) rfl) rfl <| g0 (fa uu57 rfl zz3 rfl rfl rfl (k' := 20)) rfl <| g1 0 rfl (aV aa3 zz3 rfl rfl rfl (v := (.int .i64 ((gt l x10).f))) rfl) rfl <| g0 (bq oA rfl rfl (v := (vUI (⟨(⟨((gt l x10).iv).lo, ((gt l x10).iv).hi, true, true⟩ : Iv), (gt l x10).f⟩ : U Int))) rfl) rfl ?_; clear h ac wo; intro ac wo h
    refine nw h (bF (α := U Int) (xs := [.tmp 38]) (vs := [(vUI (⟨(⟨((gt l x10).iv).lo, ((gt l x10).iv).hi, true, true⟩ : Iv), (gt l x10).f⟩ : U Int))]) [(⟨(⟨((gt l x10).iv).lo, ((gt l x10).iv).hi, true, true⟩ : Iv), (gt l x10).f⟩ : U Int)] gh rfl rfl rfl (by decide)) rfl ?_; clear h ac wo; intro sv8 ac wo nnsv8 h
    refine on2 h 2 0 rfl rfl (dD (xs := out) (ys := [(⟨(⟨((gt l x10).iv).lo, ((gt l x10).iv).hi, true, true⟩ : Iv), (gt l x10).f⟩ : U Int)]) gh (fun w hs => (row_view hs 0 rfl)) rfl rfl (by first | omega | grind)) rfl ?_; clear h ac wo; intro sv9 ac wo apsv9 h
    refine st h 3 [sv9] rfl zz26 rfl rfl (fA (h.row_sl 0 rfl)) rfl (iQ (h.row_sl 0 rfl)) rfl rfl <| gn hK20 ?_; clear h ac wo; intro ac wo h
    replace h := h.sub (F' := [(3, (ptr b1 0)), (4, (.func (.func 150) #[] #[(ptr b1 0)])), (8, lv), (9, (.int .i64 ((l.length : Nat) : Int))), (10, (.int .i64 ((x10 : Nat) : Int))), (6, (ptr b2 0))]) ⟨rfl, rfl, rfl, rfl, rfl, rfl, trivial⟩
    refine gz h <| gr fun K21 hK21 => g0 (fa uu57 rfl zz55 rfl rfl rfl (k' := 0)) rfl <| g0 (fa uu55 rfl zz4 rfl rfl rfl (k' := 19)) rfl <| g1 2 rfl (aV aa4 zz4 rfl rfl rfl (v := (.bool (((gt l x10).iv).openHi))) rfl) rfl <| g0 (er rfl) rfl <| gn hK21 ?_; clear h ac wo; intro ac wo h
    refine db h rfl (fun hc6 => ?_) (fun hc6 => ?_)
    ·
     have hq6 := hc6; try simp at hq6
     refine gz h <| gR <| g0 (aj rfl) rfl <| g0 (fa uu57 rfl zz55 rfl rfl rfl (k' := 0)) rfl <| g0 (fa uu55 rfl zz53 rfl rfl rfl (k' := 9)) rfl <| g1 2 rfl (aV aa53 zz53 rfl rfl rfl (v := (vR (((gt l x10).iv).hi))) rfl) rfl <| g0 (fa uu57 rfl zz3 rfl rfl rfl (k' := 20)) rfl <| g1 2 rfl (aV aa3 zz3 rfl rfl rfl (v := (.int .i64 ((gt l x10).f))) rfl) rfl ?_; clear h ac wo; intro ac wo h
     refine inl (vs := [(vR (((gt l x10).iv).hi)), (.int .i64 ((gt l x10).f)), (ptr b1 0)]) (M := 13) h (j8 (vs := [(vR (((gt l x10).iv).hi)), (.int .i64 ((gt l x10).f))]) (cap := [(ptr b1 0)]) cc150 rfl rfl) Tryz.func150 rfl rfl rfl ?_
     clear h ac; intro R3 hR3 ac h
     refine gz h <| gr fun K22 hK22 => gb (cR (((gt l x10).iv).hi)) rfl rfl rfl fun b5 => gn hK22 <| gR <| g1 4 rfl (aV aa26 zz26 rfl rfl rfl (v := sv9) rfl) rfl <| g1 0 rfl (aV aa53 zz53 rfl rfl rfl (v := (vR (((gt l x10).iv).hi))) rfl) rfl <| g1 0 rfl (aV aa53 zz53 rfl rfl rfl (v := (vR (((gt l x10).iv).hi))) rfl) rfl <| g0 (bq jb rfl rfl (v := (vV (⟨((gt l x10).iv).hi, ((gt l x10).iv).hi, false, false⟩ : Iv))) rfl) rfl <| g0 (aj rfl) rfl <| g0 (bq oA rfl rfl (v := (vUI (⟨(⟨((gt l x10).iv).hi, ((gt l x10).iv).hi, false, false⟩ : Iv), (gt l x10).f⟩ : U Int))) rfl) rfl ?_; clear h ac wo; intro ac wo h
     refine nw h (bF (α := U Int) (xs := [.tmp 10]) (vs := [(vUI (⟨(⟨((gt l x10).iv).hi, ((gt l x10).iv).hi, false, false⟩ : Iv), (gt l x10).f⟩ : U Int))]) [(⟨(⟨((gt l x10).iv).hi, ((gt l x10).iv).hi, false, false⟩ : Iv), (gt l x10).f⟩ : U Int)] gh rfl rfl rfl (by decide)) rfl ?_; clear h ac wo; intro sv10 ac wo nnsv10 h
     refine on2 h 2 0 rfl rfl (dD (xs := (out ++ [(⟨(⟨((gt l x10).iv).lo, ((gt l x10).iv).hi, true, true⟩ : Iv), (gt l x10).f⟩ : U Int)])) (ys := [(⟨(⟨((gt l x10).iv).hi, ((gt l x10).iv).hi, false, false⟩ : Iv), (gt l x10).f⟩ : U Int)]) gh (fun w hs => (row_view hs 0 rfl)) rfl rfl (by first | omega | grind)) rfl ?_; clear h ac wo; intro sv11 ac wo apsv11 h
     refine st h 5 [sv11] rfl zz26 rfl rfl (fA (h.row_sl 0 rfl)) rfl (iQ (h.row_sl 0 rfl)) rfl rfl <| gx (fun _ _ => bg) ?_; clear h ac wo; intro ac wo h
     refine nK (rs := []) (vs := []) h rfl .nil rfl (hR3 _ _ _ h.bel h.sep ?_)
     clear h ac hR3; intro ac h
     refine gz h <| gx (fun _ _ => bg) <| gN <| gx hK8 <| gR <| g0 (bi rfl rfl (r := ((x10 + 1 : Nat) : Int)) (by rw [IntKind.wrap_i64]; first | omega | grind)) rfl <| g0 (aj rfl) rfl <| gx (fun _ _ => bg) ?_; clear h ac wo; intro ac wo h
     exact aE ⟨m1, (by omega), _, _, _, (by first | omega | grind), bf hL1 (show cc l x10 out = .go _ from (Eq.trans (cT hc1) (Eq.trans (cF hc2) (Eq.trans (cF hc5) (cT hc6))))), (by first | omega | grind), (All.app (All.app zout (All.cons ⟨(All.gt zl (dX _)).1, (All.gt zl (dX _)).2⟩ All.nil)) (All.cons ⟨(All.gt zl (dX _)).2, (All.gt zl (dX _)).2⟩ All.nil)), (by first | omega | grind), (h.pick [0, 5] (by decide)).sub ⟨rfl, rfl, rfl, rfl, rfl, trivial⟩⟩
    ·
     have hq6 := hc6; try simp at hq6
     refine gz h <| gS <| gN <| gx hK8 <| gR <| g0 (bi rfl rfl (r := ((x10 + 1 : Nat) : Int)) (by rw [IntKind.wrap_i64]; first | omega | grind)) rfl <| g0 (aj rfl) rfl <| gx (fun _ _ => bg) ?_; clear h ac wo; intro ac wo h
     exact aE ⟨m1, (by omega), _, _, _, (by first | omega | grind), bf hL1 (show cc l x10 out = .go _ from (Eq.trans (cT hc1) (Eq.trans (cF hc2) (Eq.trans (cF hc5) (cF hc6))))), (by first | omega | grind), (All.app zout (All.cons ⟨(All.gt zl (dX _)).1, (All.gt zl (dX _)).2⟩ All.nil)), (by first | omega | grind), (h.pick [0, 3] (by decide)).sub ⟨rfl, rfl, rfl, rfl, rfl, trivial⟩⟩
 ·
  have hd1 := of_decide_eq_false hc1
  refine dO ?_
  have hx1 := cJ hL1 (show cc l x10 out = .out (x10, out) from (cF hc1))
  refine gz h <| gx hK4 <| gr fun K23 hK23 => g1 1 rfl (aV aa26 zz26 rfl rfl rfl (v := outv) rfl) rfl <| g0 (ak rfl) rfl <| gn hK23 <| gT ?_; clear h ac wo; intro ac wo h
  have hd : ag l = out := (ee (hX1.trans hx1))
  exact ret h rfl (.tmp rfl .nil) rfl (by rw [hd]; exact h.retR 0 rfl ⟨zout, (by first | omega | grind)⟩)
attribute [irreducible] ag
end Go.Sx
namespace Go.Sx
open Go Go.RowKit Go.Proofs
set_option maxRecDepth 100000
set_option maxHeartbeats 40000000
attribute [local irreducible] aF cX ar aL cp aK aM aP du bP aI
def ro (x : List Int) (x8 : Nat) : Int :=
 0
def gW (x : List Int) (x8 : Nat) : Nx Nat Int :=
 bif (decide (((x8 : Nat) : Int) < ((x.length : Nat) : Int))) then
  bif ((gt x x8) != 0) then
   .ret (gt x x8)
  else
   .go (x8 + 1)
 else
  .out x8
def jC (x : List Int) : Int :=
 fin (bI (fun s => gW x s) ((x.length - 0) + 1) 0) (fun s => ro x s) (fun r => r)
theorem mv (x : List Int) (xv : Value) (w0 : World) (hxv : View w0 xv x) : Calls Tryz.prog 148 #[xv] w0 (eX w0 (.int .i64 (jC x)) (True)) := by
 refine enter (N := 18) (args := [xv]) Tryz.func148 rfl rfl ?_; intro ac h
 have hlenx := hxv.len
 refine eq fun K1 hK1 => ?_
 refine rd0 h (ak rfl) rfl <| gn hK1 <| gr fun K2 hK2 => g0 (ak rfl) rfl <| gn hK2 <| gq fun K3 hK3 => gr fun K4 hK4 => g0 (aj rfl) rfl <| g0 (dy uu256 rfl hxv.sl) rfl <| g0 (aj rfl) rfl <| gn hK4 <| gB ?_; clear h ac; intro ac wo h
 obtain ⟨X1, hX1⟩ : ∃ X, bI (fun s => gW x s) ((x.length - 0) + 1) 0 = X := ⟨_, rfl⟩
 refine wp_loop_ghost (fun n_ a_ w_ => ∃ (x8 : Nat), ((x.length - x8) < n_) ∧ (bI (fun s => gW x s) n_ x8 = X1) ∧ (x8 ≤ x.length) ∧ St w0 18 [(3, (.int .i64 0)), (6, xv), (7, (.int .i64 ((x.length : Nat) : Int))), (8, (.int .i64 ((x8 : Nat) : Int)))] [] a_ w_) ((x.length - 0) + 1) ⟨0, (by omega), hX1, (by first | omega | grind), (h.sub ⟨rfl, rfl, rfl, rfl, trivial⟩)⟩ ?_
 clear h ac wo; rintro n1 ac wo ⟨x8, hm1, hL1, hx8, h⟩
 obtain ⟨m1, rfl⟩ : ∃ m, n1 = m + 1 := ⟨n1 - 1, by omega⟩
 refine gz h <| gr fun K5 hK5 => g0 (dP rfl rfl) rfl <| gn hK5 <| gq fun K6 hK6 => ?_; clear h ac wo; intro ac wo h
 refine db h rfl (fun hc1 => ?_) (fun hc1 => ?_)
 ·
  have hd1 := of_decide_eq_true hc1
  refine gz h <| gS <| gx hK6 <| gq fun K7 hK7 => gB <| gr fun K8 hK8 => g0 (cZ (i := x8) uu256 zz3 rfl rfl (hxv.nn (i := x8) (by first | omega | grind)) (by first | omega | grind)) rfl <| g0 (d9 (k := 0) aa3 zz3 hxv (bd (by first | omega | grind)) rfl (Nat.add_zero _) rfl rfl (v := (.int .i64 (gt x x8))) rfl) rfl <| g0 (ak rfl) rfl <| gn hK8 <| gr fun K9 hK9 => g0 (aj rfl) rfl <| g0 (aj rfl) rfl <| g0 (lQ rfl rfl) rfl <| gn hK9 ?_; clear h ac wo; intro ac wo h
  refine db h rfl (fun hc2 => ?_) (fun hc2 => ?_)
  ·
   have hq2 := hc2; try simp at hq2
   refine gz h <| gr fun K10 hK10 => g0 (aj rfl) rfl <| g0 (ak rfl) rfl <| gn hK10 <| gT ?_; clear h ac wo; intro ac wo h
   have hr1 := jj hL1 (show gW x x8 = .ret (gt x x8) from (Eq.trans (cT hc1) (cT hc2)))
   have hd : jC x = (gt x x8) := (od (hX1.trans hr1))
   exact ret h rfl (.tmp rfl .nil) rfl (h.retP (by rw [hd] <;> rfl) trivial)
  ·
   have hq2 := hc2; try simp at hq2
   refine gz h <| gS <| gN <| gx hK7 <| gR <| g0 (bi rfl rfl (r := ((x8 + 1 : Nat) : Int)) (by rw [IntKind.wrap_i64]; first | omega | grind)) rfl <| g0 (aj rfl) rfl <| gx (fun _ _ => bg) ?_; clear h ac wo; intro ac wo h
   exact aE ⟨m1, (by omega), _, (by first | omega | grind), bf hL1 (show gW x x8 = .go _ from (Eq.trans (cT hc1) (cF hc2))), (by first | omega | grind), (h.pick [] (by decide)).sub ⟨rfl, rfl, rfl, rfl, trivial⟩⟩
 ·
  have hd1 := of_decide_eq_false hc1
  refine dO ?_
  have hx1 := cJ hL1 (show gW x x8 = .out x8 from (cF hc1))
  refine gz h <| gx hK3 <| gr fun K11 hK11 => g0 (aj rfl) rfl <| g0 (ak rfl) rfl <| gn hK11 <| gT ?_; clear h ac wo; intro ac wo h
  have hd : jC x = 0 := (ee (hX1.trans hx1))
  exact ret h rfl (.tmp rfl .nil) rfl (h.retP (by rw [hd] <;> rfl) trivial)
attribute [irreducible] jC
def d2 (a : U Int) (b : U Int) : Int :=
 (jC ([(aF a.iv.lo b.iv.lo), (du (ba a.iv) (ba b.iv)), (aF a.iv.hi b.iv.hi)]))
theorem j0 (a : U Int) (b : U Int) (za : j9 30 a) (zb : j9 30 b) (w0 : World)  : Calls Tryz.prog 146 #[(vUI a), (vUI b)] w0 (eX w0 (.int .i64 (d2 a b)) (True)) := by
 refine enter (N := 31) (args := [(vUI a), (vUI b)]) Tryz.func146 rfl rfl ?_; intro ac h
 have p2 := aJ ((ch a.iv.lo b.iv.lo 10 (by omega) za.1 zb.1) w0)
 refine eq fun K1 hK1 => ?_
 refine bx h (cUI a) rfl rfl rfl fun b1 => gb (cUI b) rfl rfl rfl fun b2 => g0 (ak rfl) rfl <| gn hK1 <| gr fun K2 hK2 => g0 (ak rfl) rfl <| gn hK2 <| gq fun K3 hK3 => ?_; clear h ac; intro ac wo h
 have s3 := Calls.pr ((fun w_ hB_ hS_ => eK a.iv za w_ ) _ h.bel h.sep)
 have p4 := s3
 have s5 := Calls.pr ((fun w_ hB_ hS_ => eK b.iv zb w_ ) _ h.bel h.sep)
 have p6 := s5
 have p8 := aJ ((gi (ba a.iv) (ba b.iv)) w0)
 have p10 := aJ ((ch a.iv.hi b.iv.hi 10 (by omega) za.2 zb.2) w0)
 replace h := h.emps 1
 refine cj mixed [dv _, dv _, dw _ [1], dv _, dv _, dw _ [0], dv _, dv _, dv _, dw _ [1], dv _, dv _, dv _, dw _ [0], dv _, dv _, dv _, dv _, dw _ [1], dv _, dv _, dw _ [0], dv _, ⟨.nd (.one 23 fun v => NN v 3), [2]⟩, dw _ [2], dv _] [⟨_, []⟩, ⟨_, []⟩, ⟨.emp, [(23, .one 23 fun v => .row (α := Int) 3 v ([(aF a.iv.lo b.iv.lo), (du (ba a.iv) (ba b.iv)), (aF a.iv.hi b.iv.hi)]))]⟩] h rfl (by kernel_rfl) ⟨fun _ _ => az (fa uu57 rfl zz55 rfl rfl rfl (k' := 0)), fun _ _ => az (fa uu55 rfl zz53 rfl rfl rfl (k' := 0)), fun _ _ => cK _ rfl rfl (aV aa53 zz53 rfl rfl rfl (v := (vR a.iv.lo)) rfl), fun _ _ => az (fa uu57 rfl zz55 rfl rfl rfl (k' := 0)), fun _ _ => az (fa uu55 rfl zz53 rfl rfl rfl (k' := 0)), fun _ _ => cK _ rfl rfl (aV aa53 zz53 rfl rfl rfl (v := (vR b.iv.lo)) rfl), fun _ _ => eC (dI (ck Tryz.call115 rfl) (kk (ch a.iv.lo b.iv.lo 10 (by omega) za.1 zb.1))), fun _ _ => om rfl, fun _ _ => az (fa uu57 rfl zz55 rfl rfl rfl (k' := 0)), fun _ _ => cK _ rfl rfl (aV aa55 zz55 rfl rfl rfl (v := (vV a.iv)) rfl), fun _ _ => eC (dI (j8 (cap := []) Tryz.call147 rfl rfl) (kk (eK a.iv za))), fun _ _ => om rfl, fun _ _ => az (fa uu57 rfl zz55 rfl rfl rfl (k' := 0)), fun _ _ => cK _ rfl rfl (aV aa55 zz55 rfl rfl rfl (v := (vV b.iv)) rfl), fun _ _ => eC (dI (j8 (cap := []) Tryz.call147 rfl rfl) (kk (eK b.iv zb))), fun _ _ => eC (dI (ck Tryz.call149 rfl) (kk (gi (ba a.iv) (ba b.iv)))), fun _ _ => az (fa uu57 rfl zz55 rfl rfl rfl (k' := 0)), fun _ _ => az (fa uu55 rfl zz53 rfl rfl rfl (k' := 9)), fun _ _ => cK _ rfl rfl (aV aa53 zz53 rfl rfl rfl (v := (vR a.iv.hi)) rfl), fun _ _ => az (fa uu57 rfl zz55 rfl rfl rfl (k' := 0)), fun _ _ => az (fa uu55 rfl zz53 rfl rfl rfl (k' := 9)), fun _ _ => cK _ rfl rfl (aV aa53 zz53 rfl rfl rfl (v := (vR b.iv.hi)) rfl), fun _ _ => eC (dI (ck Tryz.call115 rfl) (kk (ch a.iv.hi b.iv.hi 10 (by omega) za.2 zb.2))), fun _ _ => kh (ψ := fun v => NN v 3) (B := fun v => [.row (α := Int) 3 v ([(aF a.iv.lo b.iv.lo), (du (ba a.iv) (ba b.iv)), (aF a.iv.hi b.iv.hi)])]) [.emp] rfl (fun v _ => by simp only [eB, bn] <;> rfl) (fun v hv => by simpa [DF.one, bn] using hv) (jI (bF (α := Int) (xs := [.tmp 12, .tmp 21, .tmp 28]) (vs := [(.int .i64 (aF a.iv.lo b.iv.lo)), (.int .i64 (du (ba a.iv) (ba b.iv))), (.int .i64 (aF a.iv.hi b.iv.hi))]) [(aF a.iv.lo b.iv.lo), (du (ba a.iv) (ba b.iv)), (aF a.iv.hi b.iv.hi)] o3 rfl rfl rfl (by decide))), fun ξ hφ => gY _ [.row (α := Int) 3 (ξ 23) ([(aF a.iv.lo b.iv.lo), (du (ba a.iv) (ba b.iv)), (aF a.iv.hi b.iv.hi)])] rfl rfl (dI (ck Tryz.call148 rfl) (fun w_ hB_ hS_ => mv ([(aF a.iv.lo b.iv.lo), (du (ba a.iv) (ba b.iv)), (aF a.iv.hi b.iv.hi)]) (ξ 23) w_ (row_view hS_ 0 rfl))), fun _ _ => az (ak rfl), trivial⟩ ?_
 clear h ac wo; intro ξ ac wo hφ h
 replace h : St w0 31 [(4, (.int .i64 (jC ([(aF a.iv.lo b.iv.lo), (du (ba a.iv) (ba b.iv)), (aF a.iv.hi b.iv.hi)]))))] [.blk b2 (cUI b) 57, .blk b1 (cUI a) 57] ac wo := (h.pick [0, 1] (by decide)).sub ⟨rfl, trivial⟩
 clear hφ ξ
 refine hK3 _ _ ?_
 refine fU ?_
 exact ret h rfl (.tmp rfl .nil) rfl (h.retP (by unfold d2; rfl) trivial)
attribute [irreducible] d2
def gP (data : List (U Int)) (a : Nat) (b : Nat) (i : Nat) (data1 : List (U Int)) : List (U Int) :=
 data1
def gO (data : List (U Int)) (a : Nat) (b : Nat) (i : Nat) (data1 : List (U Int)) (j : Nat) (data2 : List (U Int)) : Nx (Nat × (List (U Int))) (List (U Int)) :=
 .go ((i + 1), data2)
def dq (data : List (U Int)) (a : Nat) (b : Nat) (i : Nat) (data1 : List (U Int)) (j : Nat) (data2 : List (U Int)) : Nx (Nat × (List (U Int))) (List (U Int)) :=
 bif ((decide (((j : Nat) : Int) > ((a : Nat) : Int))) && (decide ((d2 (gt data2 j) (gt data2 (j - 1))) < 0))) then
  .go ((j - 1), ((data2.set j (gt data2 (j - 1))).set (j - 1) (gt data2 j)))
 else
  .out (j, data2)
def dr (data : List (U Int)) (a : Nat) (b : Nat) (i : Nat) (data1 : List (U Int)) : Nx (Nat × (List (U Int))) (List (U Int)) :=
 bif (decide (((i : Nat) : Int) < ((b : Nat) : Int))) then
  fin (bI (fun s => dq data a b i data1 s.1 s.2) (i + 1) (i, data1)) (fun s => gO data a b i data1 s.1 s.2) (fun r => .ret r)
 else
  .out (i, data1)
def bD (data : List (U Int)) (a : Nat) (b : Nat) : List (U Int) :=
 fin (bI (fun s => dr data a b s.1 s.2) ((b + 1 - (a + 1)) + 1) ((a + 1), data)) (fun s => gP data a b s.1 s.2) (fun r => r)
theorem gM (data : List (U Int)) (datav : Value) (a : Nat) (b : Nat) (hab : a ≤ b) (hb : b ≤ data.length) (hb2 : b ≤ 1000) (zdata : All (j9 30) data) (w0 w : World) (B : Asn) (hbel : Below w0.heap.size w0 w) (hsep : ∃ Z_, Sep w0.heap.size w [.row (α := U Int) 57 datav data, B] Z_)  : Calls Tryz.prog 208 #[datav, (.int .i64 ((a : Nat) : Int)), (.int .i64 ((b : Nat) : Int)), (.func (.func 146) #[] #[])] w (RetY w0 (fun v => v = .tuple #[] ∧ (All (j9 30) (bD data a b) ∧ (bD data a b).length = data.length)) (fun v => [.row (α := U Int) 57 datav (bD data a b), B])) := by
 refine jB (N := 53) (args := [datav, (.int .i64 ((a : Nat) : Int)), (.int .i64 ((b : Nat) : Int)), (.func (.func 146) #[] #[])]) Tryz.func208 rfl rfl hbel hsep ?_; intro ac h
 have hlendata := h.len 0 rfl
 refine eq fun K1 hK1 => ?_
 refine rd0 h (aj rfl) rfl <| g0 (bi rfl rfl (r := ((a + 1 : Nat) : Int)) (by rw [IntKind.wrap_i64]; first | omega | grind)) rfl <| g0 (ak rfl) rfl <| gn hK1 <| gB ?_; clear h ac; intro ac wo h
 obtain ⟨X1, hX1⟩ : ∃ X, bI (fun s => dr data a b s.1 s.2) ((b + 1 - (a + 1)) + 1) ((a + 1), data) = X := ⟨_, rfl⟩
 refine wp_loop_ghost (fun n_ a_ w_ => ∃ (i : Nat) (data1 : List (U Int)), ((b + 1 - i) < n_) ∧ (bI (fun s => dr data a b s.1 s.2) n_ (i, data1) = X1) ∧ (i ≤ b + 1) ∧ (All (j9 30) data1) ∧ (data1.length = data.length) ∧ St w0 53 [(0, datav), (1, (.int .i64 ((a : Nat) : Int))), (2, (.int .i64 ((b : Nat) : Int))), (3, (.func (.func 146) #[] #[])), (8, (.int .i64 ((i : Nat) : Int)))] [.row (α := U Int) 57 datav data1, B] a_ w_) ((b + 1 - (a + 1)) + 1) ⟨(a + 1), data, (by omega), hX1, (by first | omega | grind), zdata, (by first | omega | grind), (h.sub ⟨rfl, rfl, rfl, rfl, rfl, trivial⟩)⟩ ?_
 clear h ac wo; rintro n1 ac wo ⟨i, data1, hm1, hL1, hi, zdata1, hdl, h⟩
 obtain ⟨m1, rfl⟩ : ∃ m, n1 = m + 1 := ⟨n1 - 1, by omega⟩
 refine gz h <| gq fun K2 hK2 => gr fun K3 hK3 => g0 (aj rfl) rfl <| g0 (aj rfl) rfl <| g0 (dP rfl rfl) rfl <| gn hK3 ?_; clear h ac wo; intro ac wo h
 refine db h rfl (fun hc1 => ?_) (fun hc1 => ?_)
 ·
  have hd1 := of_decide_eq_true hc1
  refine gz h <| gS <| gx hK2 <| gq fun K4 hK4 => gB <| gr fun K5 hK5 => g0 (aj rfl) rfl <| g0 (ak rfl) rfl <| gn hK5 <| gB ?_; clear h ac wo; intro ac wo h
  obtain ⟨X2, hX2⟩ : ∃ X, bI (fun s => dq data a b i data1 s.1 s.2) (i + 1) (i, data1) = X := ⟨_, rfl⟩
  refine wp_loop_ghost (fun n_ a_ w_ => ∃ (j : Nat) (data2 : List (U Int)), (j < n_) ∧ (bI (fun s => dq data a b i data1 s.1 s.2) n_ (j, data2) = X2) ∧ (All (j9 30) data2) ∧ (j ≤ i) ∧ (data2.length = data.length) ∧ St w0 53 [(0, datav), (1, (.int .i64 ((a : Nat) : Int))), (2, (.int .i64 ((b : Nat) : Int))), (3, (.func (.func 146) #[] #[])), (8, (.int .i64 ((i : Nat) : Int))), (9, (.int .i64 ((j : Nat) : Int)))] [.row (α := U Int) 57 datav data2, B] a_ w_) (i + 1) ⟨i, data1, (by omega), hX2, zdata1, (by first | omega | grind), (by first | omega | grind), (h.sub ⟨rfl, rfl, rfl, rfl, rfl, rfl, trivial⟩)⟩ ?_
  clear h ac wo; rintro n2 ac wo ⟨j, data2, hm2, hL2, zdata2, hj, hdl2, h⟩
  obtain ⟨m2, rfl⟩ : ∃ m, n2 = m + 1 := ⟨n2 - 1, by omega⟩
  refine cG fun K6 hK6 => ?_
  refine cG fun K7 hK7 => ?_
  refine cj mixed [dv _, dv _, dv _, dv _, dv _, dv _, dv _, dv _, dw _ [0], dv _, dv _, dv _, dv _, dw _ [0], dv _, dv _, dv _] [⟨_, []⟩, ⟨_, []⟩] h rfl (by kernel_rfl) ⟨fun _ _ => om rfl, fun _ _ => om rfl, fun _ _ => az (iK rfl rfl), fun _ _ => om rfl, fun _ _ => oh rfl rfl rfl rfl (fun hg => aj rfl), fun _ _ => oh rfl rfl rfl rfl (fun hg => aj rfl), fun _ _ => oh rfl rfl rfl rfl (fun hg => aj rfl), fun _ _ => oh rfl rfl rfl rfl (fun hg => cZ (i := j) uu26 zz57 (ao rfl hg) (ao rfl hg) (h.row_nn 0 rfl (by first | omega | (simp at hg; omega) | grind)) (by first | omega | (simp at hg; omega) | grind)), fun _ _ => oh rfl rfl rfl rfl (fun hg => cY (k := 0) aa57 zz57 (bd (by first | omega | (simp at hg; omega) | grind)) (ao rfl hg) (Nat.add_zero _) rfl rfl (v := (vUI (gt data2 j))) rfl), fun _ _ => oh rfl rfl rfl rfl (fun hg => aj rfl), fun _ _ => oh rfl rfl rfl rfl (fun hg => aj rfl), fun _ _ => oh rfl rfl rfl rfl (fun hg => dk (ao rfl hg) rfl (r := (((j - 1) : Nat) : Int)) (by rw [IntKind.wrap_i64]; first | omega | (simp at hg; omega) | grind)), fun _ _ => oh rfl rfl rfl rfl (fun hg => cZ (i := (j - 1)) uu26 zz57 (ao rfl hg) (ao rfl hg) (h.row_nn 0 rfl (by first | omega | (simp at hg; omega) | grind)) (by first | omega | (simp at hg; omega) | grind)), fun _ _ => oh rfl rfl rfl rfl (fun hg => cY (k := 0) aa57 zz57 (bd (by first | omega | (simp at hg; omega) | grind)) (ao rfl hg) (Nat.add_zero _) rfl rfl (v := (vUI (gt data2 (j - 1)))) rfl), fun _ _ => og1 rfl rfl rfl rfl (fun hg => dI (j8 (cap := []) Tryz.call146 (ao rfl hg) (aU (ao rfl hg) (aU (ao rfl hg) rfl))) (kk (j0 (gt data2 j) (gt data2 (j - 1)) (All.gt zdata2 (dX _)) (All.gt zdata2 (dX _))))), fun _ _ => oh rfl rfl rfl rfl (fun hg => dP (ao rfl hg) rfl), fun _ _ => az (da rfl (fun e => (ao rfl e))), trivial⟩ ?_
  clear h ac wo; intro ξ ac wo hφ h
  replace h : St w0 53 [(0, datav), (1, (.int .i64 ((a : Nat) : Int))), (2, (.int .i64 ((b : Nat) : Int))), (3, (.func (.func 146) #[] #[])), (8, (.int .i64 ((i : Nat) : Int))), (9, (.int .i64 ((j : Nat) : Int))), (34, (.bool ((decide (((j : Nat) : Int) > ((a : Nat) : Int))) && (decide ((d2 (gt data2 j) (gt data2 (j - 1))) < 0)))))] [.row (α := U Int) 57 datav data2, B] ac wo := (h.pick [0, 1] (by decide)).sub ⟨rfl, rfl, rfl, rfl, rfl, rfl, rfl, trivial⟩
  clear hφ ξ
  refine hK7 _ _ ?_
  refine db h rfl (fun hc2 => ?_) (fun hc2 => ?_)
  ·
   have hq2 := hc2; try simp at hq2
   refine dR ?_
   refine hK6 _ _ ?_
   refine cG fun K8 hK8 => ?_
   refine eR ?_
   refine cj mixed [dv _, dv _, dv _, dv _, dv _, dv _, dv _, dv _, dv _, dw _ [0], dv _, dv _, dv _, dw _ [0], dv _, dw _ [0], dv _, dw _ [0]] [⟨.row (α := U Int) 57 datav data2, [(15, .con (.row (α := U Int) 57 datav (data2.set j (gt data2 (j - 1))))), (17, .con (.row (α := U Int) 57 datav ((data2.set j (gt data2 (j - 1))).set (j - 1) (gt data2 j))))]⟩, ⟨_, []⟩] h rfl (by kernel_rfl) ⟨fun _ _ => om rfl, fun _ _ => om rfl, fun _ _ => om rfl, fun _ _ => om rfl, fun _ _ => az (dk rfl rfl (r := (((j - 1) : Nat) : Int)) (by rw [IntKind.wrap_i64]; first | omega | grind)), fun _ _ => om rfl, fun _ _ => om rfl, fun _ _ => az (dk rfl rfl (r := (((j - 1) : Nat) : Int)) (by rw [IntKind.wrap_i64]; first | omega | grind)), fun _ _ => az (cZ (i := (j - 1)) uu26 zz57 rfl rfl (h.row_nn 0 rfl (by first | omega | grind)) (by first | omega | grind)), fun _ _ => cK _ rfl rfl (cY (k := 0) aa57 zz57 (bd (by first | omega | grind)) rfl (Nat.add_zero _) rfl rfl (v := (vUI (gt data2 (j - 1)))) rfl), fun _ _ => om rfl, fun _ _ => om rfl, fun _ _ => az (cZ (i := j) uu26 zz57 rfl rfl (h.row_nn 0 rfl (by first | omega | grind)) (by first | omega | grind)), fun _ _ => cK _ rfl rfl (cY (k := 0) aa57 zz57 (bd (by first | omega | grind)) rfl (Nat.add_zero _) rfl rfl (v := (vUI (gt data2 j))) rfl), fun _ _ => az (cZ (i := j) uu26 zz57 rfl rfl (h.row_nn 0 rfl (by first | omega | grind)) (by first | omega | grind)), fun _ _ => gY _ [.row (α := U Int) 57 datav (data2.set j (gt data2 (j - 1)))] rfl rfl (e7 (k := 0) (u' := (gt data2 (j - 1))) zz57 (bd (by first | omega | grind)) rfl (Nat.add_zero _) rfl rfl rfl rfl rfl rfl), fun _ _ => az (cZ (i := (j - 1)) uu26 zz57 rfl rfl (h.row_nn 0 rfl (by first | omega | grind)) (by first | omega | grind)), fun _ _ => gY _ [.row (α := U Int) 57 datav ((data2.set j (gt data2 (j - 1))).set (j - 1) (gt data2 j))] rfl rfl (e7 (k := 0) (u' := (gt data2 j)) zz57 (bd (by first | omega | grind)) rfl (Nat.add_zero _) rfl rfl rfl rfl rfl rfl), trivial⟩ ?_
   clear h ac wo; intro ξ ac wo hφ h
   replace h : St w0 53 [(0, datav), (1, (.int .i64 ((a : Nat) : Int))), (2, (.int .i64 ((b : Nat) : Int))), (3, (.func (.func 146) #[] #[])), (8, (.int .i64 ((i : Nat) : Int))), (9, (.int .i64 ((j : Nat) : Int)))] [.row (α := U Int) 57 datav ((data2.set j (gt data2 (j - 1))).set (j - 1) (gt data2 j)), B] ac wo := (h.pick [0, 1] (by decide)).sub ⟨rfl, rfl, rfl, rfl, rfl, rfl, trivial⟩
   clear hφ ξ
   refine gz h <| gN <| gx hK8 <| gR <| g0 (aj rfl) rfl <| g0 (dk rfl rfl (r := (((j - 1) : Nat) : Int)) (by rw [IntKind.wrap_i64]; first | omega | grind)) rfl <| g0 (ak rfl) rfl <| gx (fun _ _ => bg) ?_; clear h ac wo; intro ac wo h
   exact aE ⟨m2, (by omega), _, _, (by first | omega | grind), bf hL2 (show dq data a b i data1 j data2 = .go _ from (cT hc2)), (All.set (All.set zdata2 (All.gt zdata2 (dX _))) (All.gt zdata2 (dX _))), (by first | omega | grind), (by first | omega | grind), (h.pick [0, 1] (by decide)).sub ⟨rfl, rfl, rfl, rfl, rfl, rfl, trivial⟩⟩
  ·
   have hq2 := hc2; try simp at hq2
   refine dO ?_
   have hx2 := cJ hL2 (show dq data a b i data1 j data2 = .out (j, data2) from (cF hc2))
   refine gz h <| gx hK4 <| gR <| g0 (aj rfl) rfl <| g0 (bi rfl rfl (r := ((i + 1 : Nat) : Int)) (by rw [IntKind.wrap_i64]; first | omega | grind)) rfl <| g0 (ak rfl) rfl <| gx (fun _ _ => bg) ?_; clear h ac wo; intro ac wo h
   exact aE ⟨m1, (by omega), _, _, (by first | omega | grind), bf hL1 (show dr data a b i data1 = .go _ from (Eq.trans (cT hc1) (ee (hX2.trans hx2)))), (by first | omega | grind), zdata2, (by first | omega | grind), (h.pick [0, 1] (by decide)).sub ⟨rfl, rfl, rfl, rfl, rfl, trivial⟩⟩
 ·
  have hd1 := of_decide_eq_false hc1
  refine dO ?_
  have hx1 := cJ hL1 (show dr data a b i data1 = .out (i, data1) from (cF hc1))
  have hd : bD data a b = data1 := (ee (hX1.trans hx1))
  exact nK (vs := []) h rfl .nil rfl ((h.pick [0, 1] (by decide)).retY ⟨rfl, (by rw [hd]; exact ⟨zdata1, (by first | omega | grind)⟩)⟩ (by rw [hd]; rfl))
attribute [irreducible] bD
def iO (data : List (U Int)) (n : Nat) (a : Nat) (b : Nat) (data1 : List (U Int)) (blockSize : Nat) : List (U Int) :=
 (bD data1 a n)
def et (data : List (U Int)) (n : Nat) (a : Nat) (b : Nat) (data1 : List (U Int)) (blockSize : Nat) : Nx Nat (List (U Int)) :=
 .out blockSize
def iP (data : List (U Int)) (n : Nat) (a : Nat) (b : Nat) (data1 : List (U Int)) : List (U Int) :=
 fin (bI (fun s => et data n a b data1 s) (0 + 1) 20) (fun s => iO data n a b data1 s) (fun r => r)
def eu (data : List (U Int)) (n : Nat) (a : Nat) (b : Nat) (data1 : List (U Int)) : Nx (Nat × Nat × (List (U Int))) (List (U Int)) :=
 .out (a, b, data1)
def cH (data : List (U Int)) (n : Nat) : List (U Int) :=
 fin (bI (fun s => eu data n s.1 s.2.1 s.2.2) (0 + 1) (0, 20, data)) (fun s => iP data n s.1 s.2.1 s.2.2) (fun r => r)
theorem iN (data : List (U Int)) (datav : Value) (n : Nat) (hn : n = data.length) (hl : data.length < 20) (zdata : All (j9 30) data) (w0 w : World) (B : Asn) (hbel : Below w0.heap.size w0 w) (hsep : ∃ Z_, Sep w0.heap.size w [.row (α := U Int) 57 datav data, B] Z_)  : Calls Tryz.prog 185 #[datav, (.int .i64 ((n : Nat) : Int)), (.func (.func 146) #[] #[])] w (RetY w0 (fun v => v = .tuple #[] ∧ (All (j9 30) (cH data n) ∧ (cH data n).length = data.length)) (fun v => [.row (α := U Int) 57 datav (cH data n), B])) := by
 refine jB (N := 63) (args := [datav, (.int .i64 ((n : Nat) : Int)), (.func (.func 146) #[] #[])]) Tryz.func185 rfl rfl hbel hsep ?_; intro ac h
 have hlendata := h.len 0 rfl
 refine eq fun K1 hK1 => ?_
 refine rd0 h (ak rfl) rfl <| gn hK1 <| gr fun K2 hK2 => g0 (aj rfl) rfl <| g0 (ak rfl) rfl <| g0 (ak rfl) rfl <| gn hK2 <| gq fun K3 hK3 => gB ?_; clear h ac; intro ac wo h
 obtain ⟨X1, hX1⟩ : ∃ X, bI (fun s => eu data n s.1 s.2.1 s.2.2) (0 + 1) (0, 20, data) = X := ⟨_, rfl⟩
 refine wp_loop_ghost (fun n_ a_ w_ => ∃ (a : Nat) (b : Nat) (data1 : List (U Int)), (0 < n_) ∧ (bI (fun s => eu data n s.1 s.2.1 s.2.2) n_ (a, b, data1) = X1) ∧ (All (j9 30) data1) ∧ (a = 0) ∧ (b = 20) ∧ (data1.length = data.length) ∧ St w0 63 [(0, datav), (1, (.int .i64 ((n : Nat) : Int))), (2, (.func (.func 146) #[] #[])), (6, (.int .i64 20)), (7, (.int .i64 ((a : Nat) : Int))), (8, (.int .i64 ((b : Nat) : Int)))] [.row (α := U Int) 57 datav data1, B] a_ w_) (0 + 1) ⟨0, 20, data, (by omega), hX1, zdata, (by first | omega | grind), (by first | omega | grind), (by first | omega | grind), (h.sub ⟨rfl, rfl, rfl, rfl, rfl, rfl, trivial⟩)⟩ ?_
 clear h ac wo; rintro n1 ac wo ⟨a, b, data1, hm1, hL1, zdata1, ha0, hb0, hdl, h⟩
 obtain ⟨m1, rfl⟩ : ∃ m, n1 = m + 1 := ⟨n1 - 1, by omega⟩
 refine gz h <| gq fun K4 hK4 => gr fun K5 hK5 => g0 (aj rfl) rfl <| g0 (aj rfl) rfl <| g0 (qA rfl rfl) rfl <| gn hK5 ?_; clear h ac wo; intro ac wo h
 refine kT h rfl ?_ (decide_eq_false (by omega))
 refine dO ?_
 have hx1 := cJ hL1 (show eu data n a b data1 = .out (a, b, data1) from rfl)
 refine gz h <| gx hK3 <| gr fun K6 hK6 => g0 (aj rfl) rfl <| g0 (aj rfl) rfl <| g0 (aj rfl) rfl <| g0 (aj rfl) rfl ?_; clear h ac wo; intro ac wo h
 refine on1 h 0 rfl (kM (vs := [datav, (.int .i64 ((a : Nat) : Int)), (.int .i64 ((n : Nat) : Int)), (.func (.func 146) #[] #[])]) (A := fun v => [.row (α := U Int) 57 datav (bD data1 a n)]) (ck Tryz.call208 rfl) (fun w_ B_ hB_ hS_ => gM data1 datav a n (by first | omega | grind) (by first | omega | grind) (by first | omega | grind) zdata1 w0 w_ B_ hB_ hS_ )) rfl ?_; clear h ac wo; intro vc ac wo s2 h
 obtain rfl : vc = _ := s2.1
 have p3 := s2.2.2
 refine bg ?_
 refine hK6 _ _ ?_
 refine eR ?_
 obtain ⟨X2, hX2⟩ : ∃ X, bI (fun s => et data n a b data1 s) (0 + 1) 20 = X := ⟨_, rfl⟩
 refine wp_loop_ghost (fun n_ a_ w_ => ∃ (blockSize : Nat), (0 < n_) ∧ (bI (fun s => et data n a b data1 s) n_ blockSize = X2) ∧ (blockSize = 20) ∧ St w0 63 [(0, datav), (1, (.int .i64 ((n : Nat) : Int))), (2, (.func (.func 146) #[] #[])), (6, (.int .i64 ((blockSize : Nat) : Int)))] [.row (α := U Int) 57 datav (bD data1 a n), B] a_ w_) (0 + 1) ⟨20, (by omega), hX2, (by first | omega | grind), (h.sub ⟨rfl, rfl, rfl, rfl, trivial⟩)⟩ ?_
 clear h ac wo; rintro n2 ac wo ⟨blockSize, hm2, hL2, hbs, h⟩
 obtain ⟨m2, rfl⟩ : ∃ m, n2 = m + 1 := ⟨n2 - 1, by omega⟩
 refine gz h <| gq fun K7 hK7 => gr fun K8 hK8 => g0 (aj rfl) rfl <| g0 (aj rfl) rfl <| g0 (dP rfl rfl) rfl <| gn hK8 ?_; clear h ac wo; intro ac wo h
 refine kT h rfl ?_ (decide_eq_false (by omega))
 refine dO ?_
 have hx2 := cJ hL2 (show et data n a b data1 blockSize = .out blockSize from rfl)
 have hd : cH data n = (bD data1 a n) := (Eq.trans (ee (hX1.trans hx1)) (ee (hX2.trans hx2)))
 exact nK (vs := []) h rfl .nil rfl ((h.pick [0, 1] (by decide)).retY ⟨rfl, (by rw [hd]; exact ⟨s2.2.1, (by first | omega | grind)⟩)⟩ (by rw [hd]; rfl))
attribute [irreducible] cH
def bB (x : List (U Int)) : List (U Int) :=
 (cH x x.length)
theorem fz (x : List (U Int)) (xv : Value) (hl : x.length < 20) (zx : All (j9 30) x) (w0 w : World) (B : Asn) (hbel : Below w0.heap.size w0 w) (hsep : ∃ Z_, Sep w0.heap.size w [.row (α := U Int) 57 xv x, B] Z_)  : Calls Tryz.prog 145 #[xv, (.func (.func 146) #[] #[])] w (RetY w0 (fun v => v = .tuple #[] ∧ (All (j9 30) (bB x) ∧ (bB x).length = x.length)) (fun v => [.row (α := U Int) 57 xv (bB x), B])) := by
 refine jB (N := 9) (args := [xv, (.func (.func 146) #[] #[])]) Tryz.func145 rfl rfl hbel hsep ?_; intro ac h
 have hlenx := h.len 0 rfl
 refine c_r ?_
 refine rd0 h (aj rfl) rfl <| g0 (aj rfl) rfl ?_; clear h ac; intro ac wo h
 refine rd0 h (dy uu26 rfl (h.row_sl 0 rfl)) rfl <| g0 (aj rfl) rfl ?_; clear h ac wo; intro ac wo h
 refine on1 h 0 rfl (kM (vs := [xv, (.int .i64 ((x.length : Nat) : Int)), (.func (.func 146) #[] #[])]) (A := fun v => [.row (α := U Int) 57 xv (cH x x.length)]) (ck Tryz.call185 rfl) (fun w_ B_ hB_ hS_ => iN x xv x.length (by first | omega | grind) (by first | omega | grind) zx w0 w_ B_ hB_ hS_ )) rfl ?_; clear h ac wo; intro vc ac wo s2 h
 obtain rfl : vc = _ := s2.1
 have p3 := s2.2.2
 refine bg ?_
 have hd : bB x = (cH x x.length) := rfl
 exact nK (vs := []) h rfl .nil rfl ((h.pick [0, 1] (by decide)).retY ⟨rfl, (by rw [hd]; exact ⟨s2.2.1, (by first | omega | grind)⟩)⟩ (by rw [hd]; rfl))
attribute [irreducible] bB
def ab (l : List (U Int)) : (List (U Int)) :=
 (bB (bj l))
theorem iz (l : List (U Int)) (lv : Value) (hl : l.length < 20) (zl : All (j9 30) l) (w0 : World) (hlv : View w0 lv l) : Calls Tryz.prog 80 #[lv] w0 (RetR w0 57 (ab l) (All (j9 30) (ab l) ∧ (ab l).length = l.length)) := by
 refine enter (N := 9) (args := [lv]) Tryz.func80 rfl rfl ?_; intro ac h
 have hlenl := hlv.len
 refine eq fun K1 hK1 => ?_
 refine rd0 h (ak rfl) rfl <| gn hK1 <| gr fun K2 hK2 => g0 (aj rfl) rfl ?_; clear h ac; intro ac wo h
 have s1 := RetR.pr ((fun w_ hB_ hS_ => eT l lv (by first | omega | grind) zl w_ (hlv.below hB_)) _ h.bel h.sep)
 have p2 := s1.2
 have p2_0 := p2.1
 have p2_1 := p2.2
 refine ja (xs := (bj l)) h (ck Tryz.call144 rfl) (fun w_ hB_ hS_ => eT l lv (by first | omega | grind) zl w_ (hlv.below hB_)) rfl ?_; clear h ac wo; intro sv3 ac wo _ h
 refine rd0 h (ak rfl) rfl <| gn hK2 <| gr fun K3 hK3 => g0 (aj rfl) rfl ?_; clear h ac wo; intro ac wo h
 refine on1 h 0 rfl (kM (vs := [sv3, (.func (.func 146) #[] #[])]) (A := fun v => [.row (α := U Int) 57 sv3 (bB (bj l))]) (ck Tryz.call145 rfl) (fun w_ B_ hB_ hS_ => fz (bj l) sv3 (by first | omega | grind) s1.1 w0 w_ B_ hB_ hS_ )) rfl ?_; clear h ac wo; intro vc ac wo s5 h
 obtain rfl : vc = _ := s5.1
 have p6 := s5.2.2
 refine gz h <| gn hK3 <| gr fun K4 hK4 => g0 (aj rfl) rfl <| g0 (ak rfl) rfl <| gn hK4 <| gT ?_; clear h ac wo; intro ac wo h
 exact ret h rfl (.tmp rfl .nil) rfl (by unfold ab; exact h.retR 0 rfl ⟨s5.2.1, (by first | omega | grind)⟩)
attribute [irreducible] ab
end Go.Sx
