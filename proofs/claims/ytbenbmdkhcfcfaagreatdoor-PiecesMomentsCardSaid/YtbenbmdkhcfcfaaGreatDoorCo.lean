/- A part of the proof of piecesMoments. -/
import Derived.Test.YtbenbmdkhcfcfaaGreatDoorA7
import Derived.Test.YtbenbmdkhcfcfaaGreatDoorI1
import Derived.Test.YtbenbmdkhcfcfaaGreatDoorP1
import Derived.Test.YtbenbmdkhcfcfaaGreatDoorK2
import Derived.Test.YtbenbmdkhcfcfaaGreatDoorN1
set_option linter.unusedVariables false
set_option linter.unusedSimpArgs false
open Go.Proofs.Tryz renaming runUnderlying66 → uu66, sizeOf71 → zz71, isAgg71 → aa71, runUnderlying103 → uu103, sizeOf86 → zz86, runUnderlying86 → uu86
open Go.IntKind renaming wrap_i64 → wI
namespace Go.Sx
open Go Go.RowKit Go.Proofs
set_option maxRecDepth 100000
set_option maxHeartbeats 40000000
attribute [local irreducible] aE bM ap aT aJ dF
def fq (ls : List GR) (k1 : Nat) (xs : List GR) : (List GR) :=
 xs
def gf (ls : List GR) (k1 : Nat) (xs : List GR) (q : Nat) (j : Nat) (ys : List GR) : Nx (Nat × (List GR)) (List GR) :=
 .ret (ys.take q)
def bN (ls : List GR) (k1 : Nat) (xs : List GR) (q : Nat) (j : Nat) (ys : List GR) : Nx (Nat × Nat × (List GR)) (List GR) :=
 bif (decide (((j : Nat) : Int) < (((ls.length - k1) : Nat) : Int))) then
  bif (!(decide ((gt ys (k1 + j)) = (gt ys (k1 + (j - 1)))))) then
   .go ((q + 1), (j + 1), (ys.set q (gt ys (k1 + j))))
  else
   .go (q, (j + 1), ys)
 else
  .out (q, j, ys)
def bI (ls : List GR) (k1 : Nat) (xs : List GR) : Nx (Nat × (List GR)) (List GR) :=
 bif (decide (((k1 : Nat) : Int) < ((xs.length : Nat) : Int))) then
  bif (decide ((gt xs k1) = (gt xs (k1 - 1)))) then
   fin (bR (fun s => bN ls k1 xs s.1 s.2.1 s.2.2) ((ls.length - k1) - 1 + 1) (k1, 1, xs)) (fun s => gf ls k1 xs s.1 s.2.1 s.2.2) (fun r => .ret r)
  else
   .go ((k1 + 1), xs)
 else
  .out (k1, xs)
def cv (ls : List GR) : (List GR) :=
 bif (decide (((ls.length : Nat) : Int) < 2)) then
  ls
 else
  fin (bR (fun s => bI ls s.1 s.2) (ls.length - 1 + 1) (1, ls)) (fun s => fq ls s.1 s.2) (fun r => r)
theorem kj (ls : List GR) (lsv : Value) (hl : ls.length ≤ 2000) (zls : All (SzR 30) ls) (w0 w : World) (B : Asn) (hbel : Below w0.heap.size w0 w) (hsep : ∃ Z_, Sep w0.heap.size w [.row (α := GR) 71 lsv ls, B] Z_)  : Calls Tryz.prog 155 #[lsv] w (RetY w0 (fun v => All (SzR 30) (cv ls) ∧ (cv ls).length ≤ ls.length) (fun v => [.row (α := GR) 71 v (cv ls), B])) := by
 refine ld (N := 61) (args := [lsv]) Tryz.func155 rfl rfl hbel hsep ?_; intro ac h
 have hlenls := h.len 0 rfl
 have hvw := h.row_view 0 rfl
 have hcap := hvw.cap
 refine ej fun K1 hK1 => ?_
 refine rd0 h (aj rfl) rfl <| gn hK1 <| gq fun K2 hK2 => gr fun K3 hK3 => g0 (ak rfl) rfl ?_; clear h ac; intro ac wo h
 refine rd0 h (et uu66 rfl (h.row_sl 0 rfl)) rfl <| g0 (d5 rfl rfl) rfl <| gn hK3 ?_; clear h ac wo; intro ac wo h
 refine dA h rfl (fun hc1 => ?_) (fun hc1 => ?_)
 ·
  have hd1 := of_decide_eq_true hc1
  refine gz h <| gr fun K4 hK4 => g0 (ak rfl) rfl <| g0 (aj rfl) rfl <| gn hK4 <| gT ?_; clear h ac wo; intro ac wo h
  have hd : cv ls = ls := (cT hc1)
  exact ret h rfl (.tmp rfl .nil) rfl ((h.pick [0, 1] (by decide)).retY (by rw [hd]; exact ⟨zls, (by omega)⟩) (by rw [hd]; rfl))
 ·
  have hd1 := of_decide_eq_false hc1
  refine gz h <| gS <| gx hK2 <| gq fun K5 hK5 => gr fun K6 hK6 => g0 (aj rfl) rfl <| gn hK6 <| gB ?_; clear h ac wo; intro ac wo h
  obtain ⟨X1, hX1⟩ : ∃ X, bR (fun s => bI ls s.1 s.2) (ls.length - 1 + 1) (1, ls) = X := ⟨_, rfl⟩
  refine wp_loop_ghost (fun n_ a_ w_ => ∃ (k1 : Nat) (xs : List GR), (ls.length - k1 < n_) ∧ (bR (fun s => bI ls s.1 s.2) n_ (k1, xs) = X1) ∧ (All (SzR 30) xs) ∧ (1 ≤ k1) ∧ (xs.length = ls.length) ∧ (xs = ls) ∧ St w0 61 [(0, lsv), (3, (.int .i64 ((k1 : Nat) : Int)))] [.row (α := GR) 71 lsv xs, B] a_ w_) (ls.length - 1 + 1) ⟨1, ls, (by omega), hX1, zls, (by omega), rfl, rfl, (h.sub ⟨rfl, rfl, trivial⟩)⟩ ?_
  clear h ac wo; rintro n1 ac wo ⟨k1, xs, hm1, hL1, zxs, hk1, hml, hme, h⟩
  obtain ⟨m1, rfl⟩ : ∃ m, n1 = m + 1 := ⟨n1 - 1, by omega⟩
  refine gz h <| gq fun K7 hK7 => gr fun K8 hK8 => g0 (ak rfl) rfl <| g0 (ak rfl) rfl ?_; clear h ac wo; intro ac wo h
  refine rd0 h (et uu66 rfl (h.row_sl 0 rfl)) rfl <| g0 (d5 rfl rfl) rfl <| gn hK8 ?_; clear h ac wo; intro ac wo h
  refine dA h rfl (fun hc2 => ?_) (fun hc2 => ?_)
  ·
   have hd2 := of_decide_eq_true hc2
   refine eL ?_
   refine hK7 _ _ ?_
   refine dV fun K9 hK9 => ?_
   refine gg ?_
   refine dV fun K10 hK10 => ?_
   refine cZ mixed [dv _, dv _, dv _, dw _ [0], dv _, dv _, dv _, dv _, dw _ [0], dv _] [⟨_, []⟩, ⟨_, []⟩] h rfl (by kernel_rfl) ⟨fun _ _ => om rfl, fun _ _ => om rfl, fun _ _ => aL (eC (i := k1) uu66 zz71 rfl rfl (h.row_nn 0 rfl (by omega)) (by omega)), fun _ _ => cY _ rfl rfl (dX (k := 0) aa71 zz71 (cK (by omega)) rfl (Nat.add_zero _) rfl rfl (v := (vR (gt xs k1))) rfl), fun _ _ => om rfl, fun _ _ => om rfl, fun _ _ => aL (eQ rfl rfl (r := (((k1 - 1) : Nat) : Int)) (by rw [wI]; omega)), fun _ _ => aL (eC (i := (k1 - 1)) uu66 zz71 rfl rfl (h.row_nn 0 rfl (by omega)) (by omega)), fun _ _ => cY _ rfl rfl (dX (k := 0) aa71 zz71 (cK (by omega)) rfl (Nat.add_zero _) rfl rfl (v := (vR (gt xs (k1 - 1)))) rfl), fun _ _ => aL (il nk rfl rfl), trivial⟩ ?_
   clear h ac wo; intro ξ ac wo hφ h
   replace h : St w0 61 [(0, lsv), (3, (.int .i64 ((k1 : Nat) : Int))), (25, (.bool (decide ((gt xs k1) = (gt xs (k1 - 1))))))] [.row (α := GR) 71 lsv xs, B] ac wo := (h.pick [0, 1] (by decide)).sub ⟨rfl, rfl, rfl, trivial⟩
   clear hφ ξ
   refine hK10 _ _ ?_
   refine dA h rfl (fun hc3 => ?_) (fun hc3 => ?_)
   ·
    have hd3 := of_decide_eq_true hc3
    have hnn : NN lsv ls.length := by have := h.row_nn 0 rfl (by omega); rwa [hml] at this
    have hds := (hvw.dropv (n := k1) (by omega)).sl
    rw [List.length_drop] at hds
    refine gz h <| gr fun K11 hK11 => g0 (ak rfl) rfl <| g0 (ak rfl) rfl ?_; clear h ac wo; intro ac wo h
    refine rd0 h (sS (n := k1) uu66 zz71 rfl rfl (h.row_view 0 rfl) (by omega)) rfl <| g0 (aj rfl) rfl <| gn hK11 <| gq fun K12 hK12 => gr fun K13 hK13 => g0 (aj rfl) rfl <| gn hK13 <| gB ?_; clear h ac wo; intro ac wo h
    obtain ⟨X2, hX2⟩ : ∃ X, bR (fun s => bN ls k1 xs s.1 s.2.1 s.2.2) ((ls.length - k1) - 1 + 1) (k1, 1, xs) = X := ⟨_, rfl⟩
    refine wp_loop_ghost (fun n_ a_ w_ => ∃ (q : Nat) (j : Nat) (ys : List GR), ((ls.length - k1) - j < n_) ∧ (bR (fun s => bN ls k1 xs s.1 s.2.1 s.2.2) n_ (q, j, ys) = X2) ∧ (All (SzR 30) ys) ∧ (1 ≤ j) ∧ (k1 ≤ q) ∧ (q < k1 + j) ∧ (k1 + j ≤ ls.length) ∧ (ys.length = ls.length) ∧ St w0 61 [(0, lsv), (3, (.int .i64 ((q : Nat) : Int))), (4, (dropv lsv k1 9)), (5, (.int .i64 ((j : Nat) : Int)))] [.row (α := GR) 71 lsv ys, B] a_ w_) ((ls.length - k1) - 1 + 1) ⟨k1, 1, xs, (by omega), hX2, zxs, (by omega), (by omega), (by omega), (by omega), hml, (h.sub ⟨rfl, rfl, rfl, rfl, trivial⟩)⟩ ?_
    clear h ac wo; rintro n2 ac wo ⟨q, j, ys, hm2, hL2, zys, hj1, hq1, hq2, hq3, hml2, h⟩
    obtain ⟨m2, rfl⟩ : ∃ m, n2 = m + 1 := ⟨n2 - 1, by omega⟩
    refine gz h <| gq fun K14 hK14 => gr fun K15 hK15 => g0 (ak rfl) rfl <| g0 (ak rfl) rfl <| g0 (et uu66 rfl hds) rfl <| g0 (d5 rfl rfl) rfl <| gn hK15 ?_; clear h ac wo; intro ac wo h
    refine dA h rfl (fun hc4 => ?_) (fun hc4 => ?_)
    ·
     have hd4 := of_decide_eq_true hc4
     refine eL ?_
     refine hK14 _ _ ?_
     refine dV fun K16 hK16 => ?_
     refine gg ?_
     refine dV fun K17 hK17 => ?_
     refine cZ mixed [dv _, dv _, dv _, dw _ [0], dv _, dv _, dv _, dv _, dw _ [0], dv _] [⟨_, []⟩, ⟨_, []⟩] h rfl (by kernel_rfl) ⟨fun _ _ => om rfl, fun _ _ => om rfl, fun _ _ => aL (r_iaD (i := j) uu66 zz71 rfl rfl hnn hcap (by omega)), fun _ _ => cY _ rfl rfl (dX (k := 0) aa71 zz71 (cK (by omega)) rfl (Nat.add_zero _) rfl rfl (v := (vR (gt ys (k1 + j)))) rfl), fun _ _ => om rfl, fun _ _ => om rfl, fun _ _ => aL (eQ rfl rfl (r := (((j - 1) : Nat) : Int)) (by rw [wI]; omega)), fun _ _ => aL (r_iaD (i := (j - 1)) uu66 zz71 rfl rfl hnn hcap (by omega)), fun _ _ => cY _ rfl rfl (dX (k := 0) aa71 zz71 (cK (by omega)) rfl (Nat.add_zero _) rfl rfl (v := (vR (gt ys (k1 + (j - 1))))) rfl), fun _ _ => aL (nW nk rfl rfl), trivial⟩ ?_
     clear h ac wo; intro ξ ac wo hφ h
     replace h : St w0 61 [(0, lsv), (3, (.int .i64 ((q : Nat) : Int))), (4, (dropv lsv k1 9)), (5, (.int .i64 ((j : Nat) : Int))), (44, (.bool (!(decide ((gt ys (k1 + j)) = (gt ys (k1 + (j - 1))))))))] [.row (α := GR) 71 lsv ys, B] ac wo := (h.pick [0, 1] (by decide)).sub ⟨rfl, rfl, rfl, rfl, rfl, trivial⟩
     clear hφ ξ
     refine hK17 _ _ ?_
     refine dA h rfl (fun hc5 => ?_) (fun hc5 => ?_)
     ·
      have hq5 := hc5; try simp at hq5
      refine gz h <| gr fun K18 hK18 => g0 (ak rfl) rfl <| g0 (ak rfl) rfl <| g0 (ak rfl) rfl <| g0 (ak rfl) rfl <| g0 (r_iaD (i := j) uu66 zz71 rfl rfl hnn hcap (by omega)) rfl <| g1 0 rfl (dX (k := 0) aa71 zz71 (cK (by omega)) rfl (Nat.add_zero _) rfl rfl (v := (vR (gt ys (k1 + j)))) rfl) rfl ?_; clear h ac wo; intro ac wo h
      refine rd0 h (eC (i := q) uu66 zz71 rfl rfl (h.row_nn 0 rfl (by omega)) (by omega)) rfl ?_; clear h ac wo; intro ac wo h
      refine up h 0 rfl (ip (k := 0) (u' := (gt ys (k1 + j))) zz71 (cK (by omega)) rfl (Nat.add_zero _) rfl rfl rfl rfl rfl rfl) ?_; clear h ac wo; intro ac wo h
      refine gz h <| gn hK18 <| gR <| g0 (ak rfl) rfl <| g0 (ch rfl rfl (r := ((q + 1 : Nat) : Int)) (by rw [wI]; omega)) rfl <| g0 (aj rfl) rfl <| gx (fun _ _ => bV) <| gN <| gx hK16 <| gR <| g0 (ak rfl) rfl <| g0 (ch rfl rfl (r := ((j + 1 : Nat) : Int)) (by rw [wI]; omega)) rfl <| g0 (aj rfl) rfl <| gx (fun _ _ => bV) ?_; clear h ac wo; intro ac wo h
      exact aU ⟨m2, (by omega), _, _, _, (by omega), co hL2 (show bN ls k1 xs q j ys = .go _ from (Eq.trans (cT hc4) (cT hc5))), (All.set zys (All.gt zys (mg _))), (by omega), (by omega), (by omega), (by omega), (by first | exact hml2 | (rw [List.length_set]; exact hml2)), (h.pick [0, 1] (by decide)).sub ⟨rfl, rfl, rfl, rfl, trivial⟩⟩
     ·
      have hq5 := hc5; try simp at hq5
      refine gz h <| gS <| gN <| gx hK16 <| gR <| g0 (ak rfl) rfl <| g0 (ch rfl rfl (r := ((j + 1 : Nat) : Int)) (by rw [wI]; omega)) rfl <| g0 (aj rfl) rfl <| gx (fun _ _ => bV) ?_; clear h ac wo; intro ac wo h
      exact aU ⟨m2, (by omega), _, _, _, (by omega), co hL2 (show bN ls k1 xs q j ys = .go _ from (Eq.trans (cT hc4) (cF hc5))), zys, (by omega), (by omega), (by omega), (by omega), (by first | exact hml2 | (rw [List.length_set]; exact hml2)), (h.pick [0, 1] (by decide)).sub ⟨rfl, rfl, rfl, rfl, trivial⟩⟩
    ·
     have hd4 := of_decide_eq_false hc4
     refine ep ?_
     have hx2 := dU hL2 (show bN ls k1 xs q j ys = .out (q, j, ys) from (cF hc4))
     refine gz h <| gx hK12 <| gr fun K19 hK19 => g0 (ak rfl) rfl <| g0 (ak rfl) rfl ?_; clear h ac wo; intro ac wo h
     refine rd0 h (sS (n := q) uu66 zz71 rfl rfl (h.row_view 0 rfl) (by omega)) rfl ?_; clear h ac wo; intro ac wo h
     refine upT h 0 rfl (s_clear uu66 Tryz.zeroValue71 rfl rfl rfl (k := q) (by omega) (by omega)) ?_; clear h ac wo; intro ac wo h
     refine gz h <| gn hK19 <| gr fun K20 hK20 => g0 (ak rfl) rfl <| g0 (ak rfl) rfl <| g0 (r_cut (n := q) uu66 zz71 rfl rfl hvw (by omega)) rfl <| g0 (aj rfl) rfl <| gn hK20 <| gT ?_; clear h ac wo; intro ac wo h
     have hr1 := gj hL1 (show bI ls k1 xs = .ret (ys.take q) from (Eq.trans (cT hc2) (Eq.trans (cT hc3) (eV (hX2.trans hx2)))))
     have hd : cv ls = (ys.take q) := (Eq.trans (cF hc1) (kq (hX1.trans hr1)))
     exact ret h rfl (.tmp rfl .nil) rfl ((h.pick [0, 1] (by decide)).retY (by rw [hd]; exact ⟨(All.take zys), (by first | omega | grind)⟩) (by rw [hd]; rfl))
   ·
    have hd3 := of_decide_eq_false hc3
    refine gz h <| gS <| gN <| gx hK9 <| gR <| g0 (ak rfl) rfl <| g0 (ch rfl rfl (r := ((k1 + 1 : Nat) : Int)) (by rw [wI]; omega)) rfl <| g0 (aj rfl) rfl <| gx (fun _ _ => bV) ?_; clear h ac wo; intro ac wo h
    exact aU ⟨m1, (by omega), _, _, (by omega), co hL1 (show bI ls k1 xs = .go _ from (Eq.trans (cT hc2) (cF hc3))), zxs, (by omega), hml, hme, (h.pick [0, 1] (by decide)).sub ⟨rfl, rfl, trivial⟩⟩
  ·
   have hd2 := of_decide_eq_false hc2
   refine ep ?_
   have hx1 := dU hL1 (show bI ls k1 xs = .out (k1, xs) from (cF hc2))
   refine gz h <| gx hK5 <| gr fun K21 hK21 => g0 (ak rfl) rfl <| g0 (aj rfl) rfl <| gn hK21 <| gT ?_; clear h ac wo; intro ac wo h
   have hd : cv ls = xs := (Eq.trans (cF hc1) (eV (hX1.trans hx1)))
   exact ret h rfl (.tmp rfl .nil) rfl ((h.pick [0, 1] (by decide)).retY (by rw [hd]; exact ⟨zxs, (by omega)⟩) (by rw [hd]; rfl))
attribute [irreducible] cv
end Go.Sx
namespace Go.Sx
open Go Go.RowKit Go.Proofs
set_option maxRecDepth 100000
set_option maxHeartbeats 40000000
attribute [local irreducible] aE bM ap aT aJ dF
def bC (l : List (U Qd)) : (List Iv) :=
 (eT (aO l))
theorem iT (l : List (U Qd)) (lv : Value) (hl : l.length ≤ 100) (hw : ∀ u ∈ l, Wv u.iv) (zl : All (jI 30) l) (w0 : World) (hlv : View w0 lv l) : Calls Tryz.prog 56 #[lv] w0 (RetR w0 86 (bC l) (All (SzV 30) (bC l) ∧ (bC l).length ≤ 2 * l.length)) := by
 refine enter (N := 6) (args := [lv]) Tryz.func56 rfl rfl ?_; intro ac h
 have hlenl := hlv.len
 refine ej fun K1 hK1 => ?_
 refine rd0 h (aj rfl) rfl <| gn hK1 <| gr fun K2 hK2 => g0 (ak rfl) rfl ?_; clear h ac; intro ac wo h
 have s1 := RetR.pr ((fun w_ hB_ hS_ => fd l lv (by first | omega | grind) zl w_ (hlv.below hB_)) _ h.bel h.sep)
 have p2 := s1.2
 refine me (xs := (aO l)) h (bF Tryz.call152 rfl) (fun w_ hB_ hS_ => fd l lv (by first | omega | grind) zl w_ (hlv.below hB_)) rfl ?_; clear h ac wo; intro sv3 ac wo _ h
 have s4 := RetR.pr ((fun w_ hB_ hS_ => kg (aO l) sv3 (by first | omega | grind) (kG hw) s1.1 w_ (row_view hS_ 0 rfl)) _ h.bel h.sep)
 have p5 := s4.2
 refine me (xs := (eT (aO l))) h (bF Tryz.call77 rfl) (fun w_ hB_ hS_ => kg (aO l) sv3 (by first | omega | grind) (kG hw) s1.1 w_ (row_view hS_ 0 rfl)) rfl ?_; clear h ac wo; intro sv6 ac wo _ h
 refine rd0 h (aj rfl) rfl <| gn hK2 <| gT ?_; clear h ac wo; intro ac wo h
 exact ret h rfl (.tmp rfl .nil) rfl (by unfold bC; exact h.retR 0 rfl ⟨s4.1, (by first | omega | grind)⟩)
attribute [irreducible] bC
def hG (l : List (U Qd)) (out : List GR) (x9 : Nat) : (List GR) :=
 (cv out)
def dz (l : List (U Qd)) (out : List GR) (x9 : Nat) : Nx ((List GR) × Nat) (List GR) :=
 bif (decide (((x9 : Nat) : Int) < (((aO l).length : Nat) : Int))) then
  .go ((out ++ [(gt (aO l) x9).lo, (gt (aO l) x9).hi]), (x9 + 1))
 else
  .out (out, x9)
def bn (l : List (U Qd)) : (List GR) :=
 fin (bR (fun s => dz l s.1 s.2) (((aO l).length - 0) + 1) ([], 0)) (fun s => hG l s.1 s.2) (fun r => r)
theorem ji (l : List (U Qd)) (lv : Value) (hl : l.length ≤ 1000) (zl : All (jI 30) l) (w0 : World) (hlv : View w0 lv l) : Calls Tryz.prog 60 #[lv] w0 (RetR w0 71 (bn l) (All (SzR 30) (bn l) ∧ (bn l).length ≤ 2 * l.length)) := by
 refine enter (N := 23) (args := [lv]) Tryz.func60 rfl rfl ?_; intro ac h
 have hlenl := hlv.len
 refine ej fun K1 hK1 => ?_
 refine rd0 h (aj rfl) rfl <| gn hK1 <| gr fun K2 hK2 => g0 (aj rfl) rfl <| gn hK2 <| gq fun K3 hK3 => gr fun K4 hK4 => g0 (ak rfl) rfl ?_; clear h ac; intro ac wo h
 have s1 := RetR.pr ((fun w_ hB_ hS_ => fd l lv (by first | omega | grind) zl w_ (hlv.below hB_)) _ h.bel h.sep)
 have p2 := s1.2
 refine me (xs := (aO l)) h (bF Tryz.call152 rfl) (fun w_ hB_ hS_ => fd l lv (by first | omega | grind) zl w_ (hlv.below hB_)) rfl ?_; clear h ac wo; intro sv3 ac wo _ h
 refine rd0 h (et uu103 rfl (h.row_sl 0 rfl)) rfl <| g0 (ak rfl) rfl <| gn hK4 <| gB ?_; clear h ac wo; intro ac wo h
 replace h := h.nilRow (α := GR) 71
 obtain ⟨X1, hX1⟩ : ∃ X, bR (fun s => dz l s.1 s.2) (((aO l).length - 0) + 1) ([], 0) = X := ⟨_, rfl⟩
 refine wp_loop_ghost (fun n_ a_ w_ => ∃ (out : List GR) (x9 : Nat) (outv : Value), (((aO l).length - x9) < n_) ∧ (bR (fun s => dz l s.1 s.2) n_ (out, x9) = X1) ∧ (x9 ≤ (aO l).length) ∧ (All (SzR 30) out) ∧ (out.length = 2 * x9) ∧ St w0 23 [(3, outv), (7, sv3), (8, (.int .i64 (((aO l).length : Nat) : Int))), (9, (.int .i64 ((x9 : Nat) : Int)))] [.row (α := GR) 71 outv out, .row (α := Iv) 86 sv3 (aO l)] a_ w_) (((aO l).length - 0) + 1) ⟨[], 0, (.slice none 0 0), (by omega), hX1, (by first | omega | grind), All.nil, (by first | omega | grind), (h.sub ⟨rfl, rfl, rfl, rfl, trivial⟩)⟩ ?_
 clear h ac wo; rintro n1 ac wo ⟨out, x9, outv, hm1, hL1, hx9, zout, hol, h⟩
 obtain ⟨m1, rfl⟩ : ∃ m, n1 = m + 1 := ⟨n1 - 1, by omega⟩
 refine gz h <| gr fun K5 hK5 => g0 (d5 rfl rfl) rfl <| gn hK5 <| gq fun K6 hK6 => ?_; clear h ac wo; intro ac wo h
 refine dA h rfl (fun hc1 => ?_) (fun hc1 => ?_)
 ·
  have hd1 := of_decide_eq_true hc1
  refine eL ?_
  refine hK6 _ _ ?_
  refine dV fun K7 hK7 => ?_
  refine gg ?_
  refine ej fun K8 hK8 => ?_
  refine rd0 h (eC (i := x9) uu103 zz86 rfl rfl (h.row_nn 1 rfl (by first | omega | grind)) (by first | omega | grind)) rfl <| g1 1 rfl (dX (k := 0) Tryz.isAgg86 zz86 (cK (by first | omega | grind)) rfl (Nat.add_zero _) rfl rfl (v := (vV (gt (aO l) x9))) rfl) rfl <| ga (cV (⟨(⟨oQ, oQ, false⟩ : GR), (⟨oQ, oQ, false⟩ : GR), false, false⟩ : Iv)) Tryz.zeroValue86 rfl rfl fun b1 => gs 0 (cV (gt (aO l) x9)) rfl zz86 rfl rfl rfl rfl rfl rfl rfl <| gn hK8 <| gR <| g0 (ak rfl) rfl <| g0 (fa uu86 rfl zz71 rfl rfl rfl (k' := 0)) rfl <| g1 0 rfl (ba aa71 zz71 rfl rfl rfl (v := (vR ((gt (aO l) x9).lo))) rfl) rfl <| g0 (fa uu86 rfl zz71 rfl rfl rfl (k' := 9)) rfl <| g1 0 rfl (ba aa71 zz71 rfl rfl rfl (v := (vR ((gt (aO l) x9).hi))) rfl) rfl ?_; clear h ac wo; intro ac wo h
  refine nw h (dq (α := GR) (xs := [.tmp 15, .tmp 17]) (vs := [(vR ((gt (aO l) x9).lo)), (vR ((gt (aO l) x9).hi))]) [(gt (aO l) x9).lo, (gt (aO l) x9).hi] lr rfl rfl rfl (by decide)) rfl ?_; clear h ac wo; intro sv5 ac wo nnsv5 h
  refine on2 h 2 0 rfl rfl (fl (xs := out) (ys := [(gt (aO l) x9).lo, (gt (aO l) x9).hi]) lr (fun w hs => (row_view hs 0 rfl)) rfl rfl (by first | omega | grind)) rfl ?_; clear h ac wo; intro sv6 ac wo apsv6 h
  refine rd0 h (aj rfl) rfl <| gx (fun _ _ => bV) <| gN <| gx hK7 <| gR <| g0 (ch rfl rfl (r := ((x9 + 1 : Nat) : Int)) (by rw [wI]; first | omega | grind)) rfl <| g0 (ak rfl) rfl <| gx (fun _ _ => bV) ?_; clear h ac wo; intro ac wo h
  exact aU ⟨m1, (by omega), _, _, _, (by first | omega | grind), co hL1 (show dz l out x9 = .go _ from (cT hc1)), (by first | omega | grind), (All.app zout (All.cons (All.gt s1.1 (jG _)).1 (All.cons (All.gt s1.1 (jG _)).2 All.nil))), (by first | omega | grind), (h.pick [0, 3] (by decide)).sub ⟨rfl, rfl, rfl, rfl, trivial⟩⟩
 ·
  have hd1 := of_decide_eq_false hc1
  refine ep ?_
  have hx1 := dU hL1 (show dz l out x9 = .out (out, x9) from (cF hc1))
  refine gz h <| gx hK3 <| gr fun K9 hK9 => g0 (ak rfl) rfl ?_; clear h ac wo; intro ac wo h
  refine on1 h 0 rfl (nI (vs := [outv]) (A := fun v => [.row (α := GR) 71 v (cv out)]) (bF Tryz.call155 rfl) (fun w_ B_ hB_ hS_ => kj out outv (by first | omega | grind) zout w0 w_ B_ hB_ hS_ )) rfl ?_; clear h ac wo; intro sv7 ac wo s8 h
  have p9 := s8.2
  refine rd0 h (aj rfl) rfl <| gn hK9 <| gT ?_; clear h ac wo; intro ac wo h
  have hd : bn l = (cv out) := (eV (hX1.trans hx1))
  exact ret h rfl (.tmp rfl .nil) rfl (by rw [hd]; exact h.retR 0 rfl ⟨s8.1, (by first | omega | grind)⟩)
attribute [irreducible] bn
end Go.Sx
namespace Go.Sx
def En (out : List (U Qd)) (e : GR) : Prop := ∃ x ∈ out, e = x.iv.lo ∨ e = x.iv.hi
def Far (x y : GR) : Prop := tk x = tk y ∨ tk x + 16 ≤ tk y ∨ tk y + 16 ≤ tk x
def ctk (a : Nat) (r : Bool) : Nat := 10 * a + 10 + (bif r then 14 else 0)
def GI2 (s : (List (U Qd)) × Nat × Bool × Bool × Nat × Qd) : Prop :=
 s.2.1 ≤ 5 * s.2.2.2.2.1 ∧ s.2.2.2.2.1 ≤ 8 ∧ (∀ e, En s.1 e → 10 ≤ tk e ∧ (tk e = ctk s.2.1 s.2.2.1 ∨ tk e + 16 ≤ ctk s.2.1 s.2.2.1)) ∧ (∀ e f, En s.1 e → En s.1 f → Far e f)
theorem en_pt {s : Stp} {b : Qd} {t : GR} {k : Bool} {e : GR} (h : En (bPs s b t k) e) : e = t := by
 obtain ⟨x, hx, he⟩ := h
 unfold bPs bPt pUn at hx
 cases k
 ·rw [cond_false] at hx
  cases h2 : ((((s.piece % 4) : Nat) : Int) == ((2 : Nat) : Int)) <;> rw [h2] at hx
  ·rw [cond_false] at hx
   cases h3 : ((((s.point % 4) : Nat) : Int) == ((1 : Nat) : Int)) <;> rw [h3] at hx
   ·rw [cond_false] at hx
    cases h4 : ((((s.point % 4) : Nat) : Int) == ((2 : Nat) : Int)) <;> rw [h4] at hx
    ·rw [cond_false] at hx
     cases h5 : ((((s.point % 4) : Nat) : Int) == ((3 : Nat) : Int)) <;> rw [h5] at hx
     ·cases hx
     ·rw [List.mem_singleton.1 hx] at he; rcases he with e | e <;> exact e
    ·rw [List.mem_singleton.1 hx] at he; rcases he with e | e <;> exact e
   ·rw [List.mem_singleton.1 hx] at he; rcases he with e | e <;> exact e
  ·cases hx
 ·cases hx
theorem en_gp {s : Stp} {t t' : GR} {k : Bool} {e : GR} (h : En (bGp s t t' k) e) : e = t ∨ e = t' := by
 obtain ⟨x, hx, he⟩ := h
 unfold bGp at hx
 cases h2 : ((((s.piece % 4) : Nat) : Int) != ((0 : Nat) : Int)) <;> rw [h2] at hx
 ·cases hx
 ·rw [List.mem_singleton.1 hx] at he; exact he
theorem en_app {a b : List (U Qd)} {e : GR} (h : En (a ++ b) e) : En a e ∨ En b e := by
 obtain ⟨x, hx, he⟩ := h
 rcases List.mem_append.1 hx with hx | hx
 ·exact .inl ⟨x, hx, he⟩
 ·exact .inr ⟨x, hx, he⟩
theorem gap_inv (l : List Stp) (s : (List (U Qd)) × Nat × Bool × Bool × Nat × Qd) (h : GI2 s) :
 nxP GI2 (fun _ => False) (bq l s.1 s.2.1 s.2.2.1 s.2.2.2.1 s.2.2.2.2.1 s.2.2.2.2.2) := by
 obtain ⟨out, a, root, taken, i, before⟩ := s
 obtain ⟨h1, h2, h3, h4⟩ := h
 simp only at h1 h2 h3 h4
 rw [oi]
 cases hc : ((decide (((i : Nat) : Int) < ((l.length : Nat) : Int))) && (decide (((i : Nat) : Int) < 8))) with
 | false => exact ⟨h1, h2, h3, h4⟩
 | true =>
  rw [cond_true]
  rw [Bool.and_eq_true, decide_eq_true_eq, decide_eq_true_eq] at hc
  have hi : i < 8 := by omega
  have hm : (gt l i).length % 3 < 3 := Nat.mod_lt _ (by decide)
  have e1 : tk (ab ((a : Nat) : Int) root) = ctk a root := tk_at a root (by omega)
  have e2 : tk (ab (((a + 3) + ((gt l i).length % 3) : Nat) : Int) ((gt l i).root)) = ctk ((a + 3) + ((gt l i).length % 3)) (gt l i).root := tk_at ((a + 3) + ((gt l i).length % 3)) (gt l i).root (by omega)
  have hc : ctk a root + 16 ≤ ctk ((a + 3) + ((gt l i).length % 3)) (gt l i).root ∧ 10 ≤ ctk a root := by
   unfold ctk; cases root <;> cases (gt l i).root <;> simp <;> omega
  have new : ∀ e, En (out ++ (bPs (gt l i) before (ab ((a : Nat) : Int) root) taken ++ bGp (gt l i) (ab ((a : Nat) : Int) root) (ab (((a + 3) + ((gt l i).length % 3) : Nat) : Int) ((gt l i).root)) taken)) e →
   (En out e ∨ tk e = ctk a root ∨ tk e = ctk ((a + 3) + ((gt l i).length % 3)) (gt l i).root) := fun e he => by
   rcases en_app he with h | h
   ·exact .inl h
   ·rcases en_app h with h | h
    ·rw [en_pt h]; exact .inr (.inl e1)
    ·rcases en_gp h with e | e
     ·rw [e]; exact .inr (.inl e1)
     ·rw [e]; exact .inr (.inr e2)
  refine ⟨?_, ?_, fun e he => ?_, fun e f he hf => ?_⟩
  ·show (a + 3) + ((gt l i).length % 3) ≤ 5 * (i + 1); omega
  ·show i + 1 ≤ 8; omega
  ·show 10 ≤ tk e ∧ (tk e = ctk ((a + 3) + ((gt l i).length % 3)) (gt l i).root ∨ tk e + 16 ≤ ctk ((a + 3) + ((gt l i).length % 3)) (gt l i).root)
   rcases new e he with h | h | h
   ·have := h3 e h; omega
   ·omega
   ·omega
  ·unfold Far
   rcases new e he with h | h | h <;> rcases new f hf with h' | h' | h'
   ·exact h4 e f h h'
   ·have := h3 e h; omega
   ·have := h3 e h; omega
   ·have := h3 f h'; omega
   ·omega
   ·omega
   ·have := h3 f h'; omega
   ·omega
   ·omega
theorem uk (l : List Stp) : (∀ e, En (am l) e → 10 ≤ tk e ∧ tk e < 435) ∧ ∀ e f, En (am l) e → En (am l) f → Far e f := by
 have h := oR (R := List (U Qd)) (Q := fun _ => False) (B := fun s => bq l s.1 s.2.1 s.2.2.1 s.2.2.2.1 s.2.2.2.2.1 s.2.2.2.2.2) (I := GI2) (gap_inv l) ((8 - 0) + 1) ([], 0, false, false, 0, default)
  ⟨by decide, by decide, fun e ⟨x, hx, _⟩ => (by cases hx), fun e _ ⟨x, hx, _⟩ => (by cases hx)⟩
 have e : ∃ s, GI2 s ∧ am l = s.1 := by
  unfold am
  revert h
  generalize bR _ _ _ = X
  intro h
  cases X with
  | inl s =>
   refine ⟨s, h, ?_⟩
   show gJ l s.1 s.2.1 s.2.2.1 s.2.2.2.1 s.2.2.2.2.1 s.2.2.2.2.2 = _
   unfold gJ
   rfl
  | inr r => exact h.elim
 obtain ⟨s, hs, e⟩ := e
 rw [e]
 refine ⟨fun x hx => ?_, hs.2.2.2⟩
 have h1 := hs.2.2.1 x hx
 have h2 := hs.1
 have h3 := hs.2.1
 have h4 : ctk s.2.1 s.2.2.1 ≤ 10 * s.2.1 + 24 := by unfold ctk; cases s.2.2.1 <;> simp
 omega
end Go.Sx
namespace Go.Sx
theorem tB {i : Iv} {x : Nat} : inI i x ↔ inU i x := by
 unfold inI inU
 have h1 := rg i
 have h2 := tA i
 rw [h1]; omega
theorem pM {n : List (U Qd)} (hW : ∀ x ∈ n, Wv x.iv ∧ DOk x.f) (hD : n.Pairwise fun a b => Dj a.iv b.iv) :
 ∃ N, au n = (N, 0) ∧ NF bL bc aV N ∧ (∀ x ∈ N, DOk x.f) ∧ Sem bc n N := by
 obtain ⟨s1, s2⟩ := lf (fun x hx => (hW x hx).1.1)
 have hWs : ∀ x ∈ ae n, Wv x.iv ∧ DOk x.f := fun x hx => hW x (s1.mem_iff.1 hx)
 have hs := py (fun x hx => (hW x hx).1) hD s1 s2
 have h := sem_loop (eqf := bL) (red := aV) quads_ru (fun a b => (jg a b).1) hWs hs
 refine ⟨_, ?_, h.1, h.2.1, ?_⟩
 ·rw [jC s1.length_eq fun i h0 h1 => (pp (fun x hx => (hW x hx).1) s1 s2).2 hD i h0 (by rw [s1.length_eq]; exact h1), jD, lh]
 ·obtain ⟨k1, k2, k3, k4⟩ := h.2.2
  exact ⟨fun t ht u hu hi => by obtain ⟨w, a, b⟩ := k1 t ht u hu hi; exact ⟨w, s1.mem_iff.1 a, b⟩, fun q u hu hi => by obtain ⟨w, a, b⟩ := k2 q u hu hi; exact ⟨w, s1.mem_iff.1 a, b⟩,
   fun t ht w hw hi => k3 t ht w (s1.mem_iff.2 hw) hi, fun q w hw hi => k4 q w (s1.mem_iff.2 hw) hi⟩
theorem pZ {i : Iv} {t : GR} (hi : Tv i) (ht : Tm t) : aW i t t false = true ↔ inU i (2 * tk t) := by
 unfold aW inU eK eW
 rw [hi.1.cmp ht, ht.cmp hi.2]
 rcases Nat.lt_trichotomy (tk i.lo) (tk t) with h1 | h1 | h1 <;> rcases Nat.lt_trichotomy (tk t) (tk i.hi) with h2 | h2 | h2
 all_goals (first | rw [fN h1] | rw [h1, er] | rw [fZ h1])
 all_goals (first | rw [fN h2] | rw [← h2, er] | rw [fZ h2])
 all_goals (cases i.openLo <;> cases i.openHi <;> simp <;> omega)
end Go.Sx
namespace Go.Sx
theorem mE {T R : Type} {B : T → Nx T R} (st : Nat → T) {n : Nat} {brk hit : Nat → Bool} {r : Nat → R} {o : Nat → T}
 (h : ∀ i, i < n → B (st i) = bif brk i then .out (o i) else bif hit i then .ret (r i) else .go (st (i + 1))) (ho : B (st n) = .out (o n)) :
 ∀ k a, a ≤ n → n - a < k → ∃ b, a ≤ b ∧ b ≤ n ∧ (∀ j, a ≤ j → j < b → brk j = false ∧ hit j = false) ∧ ((b < n ∧ brk b = false ∧ hit b = true ∧ bR B k (st a) = .inr (r b)) ∨ ((b = n ∨ (b < n ∧ brk b = true)) ∧ bR B k (st a) = .inl (o b)))
 | k + 1, a, ha, hk => by
  by_cases e : a = n
  ·subst e
   exact ⟨a, Nat.le_refl _, Nat.le_refl _, fun j h1 h2 => by omega, .inr ⟨.inl rfl, fR k ho⟩⟩
  ·have h1 := h a (by omega)
   cases hb : brk a with
   | true =>
    rw [hb, cond_true] at h1
    exact ⟨a, Nat.le_refl _, by omega, fun j h1 h2 => by omega, .inr ⟨.inr ⟨by omega, hb⟩, fR k h1⟩⟩
   | false =>
    rw [hb, cond_false] at h1
    cases hh : hit a with
    | true =>
     rw [hh, cond_true] at h1
     exact ⟨a, Nat.le_refl _, by omega, fun j h1 h2 => by omega, .inl ⟨by omega, hb, hh, pR k h1⟩⟩
    | false =>
     rw [hh, cond_false] at h1
     obtain ⟨b, b1, b2, b3, b4⟩ := mE st h ho k (a + 1) (by omega) (by omega)
     refine ⟨b, by omega, b2, fun j j1 j2 => ?_, ?_⟩
     ·by_cases e2 : j = a
      ·subst e2; exact ⟨hb, hh⟩
      ·exact b3 j (by omega) j2
     ·rw [fE k h1]; exact b4
theorem gtm {β : Type} [Inhabited β] {l : List β} {i : Nat} (h : i < l.length) : gt l i ∈ l := by rw [gp h]; exact List.getElem_mem _
theorem tj {β : Type} [Inhabited β] {l : List β} {x : β} (h : x ∈ l) : ∃ i, i < l.length ∧ gt l i = x := by
 obtain ⟨i, hi, e⟩ := List.getElem_of_mem h
 exact ⟨i, hi, by rw [gp hi]; exact e⟩
theorem rG {l : List (U Qd)} (hl : ∀ u ∈ l, Tv u.iv) {t : GR} (ht : Tm t) :
 (∃ u ∈ l, inU u.iv (2 * tk t) ∧ bg l t = (u.f, true)) ∨ ((∀ u ∈ l, ¬ inU u.iv (2 * tk t)) ∧ (bg l t).2 = false) := by
 unfold bg
 generalize (⟨(⟨(⟨false, 0⟩ : GI), (⟨false, 0⟩ : GI)⟩ : GQ), (⟨(⟨false, 0⟩ : GI), (⟨false, 0⟩ : GI)⟩ : GQ), (⟨(⟨false, 0⟩ : GI), (⟨false, 0⟩ : GI)⟩ : GQ)⟩ : Qd) = z
 obtain ⟨b, b1, b2, b3, b4⟩ := mE (B := fun s => cb l t s.1 s.2) (fun i => (i, z)) (n := l.length) (brk := fun _ => false) (hit := fun i => aW ((gt l i).iv) t t false) (r := fun i => ((gt l i).f, true)) (o := fun i => (i, z))
  (fun i hi => by
    show cb l t i z = _
    unfold cb
    rw [decide_eq_true (by omega : ((i : Nat) : Int) < ((l.length : Nat) : Int))]; rfl)
  (by
    show cb l t l.length z = _
    unfold cb
    rw [decide_eq_false (by omega : ¬ ((l.length : Nat) : Int) < ((l.length : Nat) : Int))]; rfl) (l.length - 0 + 1) 0 (Nat.zero_le _) (by omega)
 rcases b4 with ⟨c1, _, c3, c4⟩ | ⟨c1, c2⟩
 ·exact .inl ⟨gt l b, gtm c1, (pZ (hl _ (gtm c1)) ht).1 c3, kq c4⟩
 ·right
  have hb : b = l.length := by
   rcases c1 with c1 | ⟨_, c1⟩
   ·exact c1
   ·cases c1
  subst hb
  refine ⟨fun u hu hi => ?_, by rw [eV c2]; rfl⟩
  obtain ⟨i, hi2, rfl⟩ := tj hu
  have := (b3 i (Nat.zero_le _) hi2).2
  rw [(pZ (hl _ hu) ht).2 hi] at this
  cases this
theorem qM {N : List (U Qd)} (hw : ∀ u ∈ N, Tv u.iv) {t : GR} (ht : Tm t) (hm : ∀ p q, p < q → q < N.length → tk (gt N p).iv.hi ≤ tk (gt N q).iv.hi) :
 ∀ k i j, j - i < k → i ≤ j → j ≤ N.length → (∀ p, p < i → tk (gt N p).iv.hi < tk t) → (∀ p, j ≤ p → p < N.length → tk t ≤ tk (gt N p).iv.hi) →
  ∃ m, m ≤ N.length ∧ bR (fun s => aG N t s.1 s.2) k (i, j) = .inl (m, m) ∧ (∀ p, p < m → tk (gt N p).iv.hi < tk t) ∧ (∀ p, m ≤ p → p < N.length → tk t ≤ tk (gt N p).iv.hi)
 | k + 1, i, j, hk, hij, hj, h1, h2 => by
  by_cases e : i < j
  ·have hlt : (i + j) / 2 < N.length := by omega
   have hc : d4 (gt N ((i + j) / 2)) t = sgn (tk (gt N ((i + j) / 2)).iv.hi) (tk t) := by
    unfold d4; exact (hw _ (gtm hlt)).2.cmp ht
   by_cases hlt2 : tk (gt N ((i + j) / 2)).iv.hi < tk t
   ·have hB : aG N t i j = .go (((i + j) / 2) + 1, j) := by
     unfold aG
     rw [decide_eq_true (by omega : ((i : Nat) : Int) < ((j : Nat) : Int)), hc, fN hlt2]; rfl
    rw [fE (B := fun s => aG N t s.1 s.2) k hB]
    refine qM hw ht hm k _ _ (by omega) (by omega) hj (fun p hp => ?_) h2
    by_cases e2 : p = (i + j) / 2
    ·rw [e2]; exact hlt2
    ·have := hm p ((i + j) / 2) (by omega) hlt
     omega
   ·have hB : aG N t i j = .go (i, (i + j) / 2) := by
     unfold aG
     rw [decide_eq_true (by omega : ((i : Nat) : Int) < ((j : Nat) : Int)), hc]
     have : decide (sgn (tk (gt N ((i + j) / 2)).iv.hi) (tk t) < 0) = false := by
      rcases Nat.lt_or_eq_of_le (Nat.le_of_not_lt hlt2) with h3 | h3
      ·rw [fZ h3]; rfl
      ·rw [h3, er]; rfl
     rw [this]; rfl
    rw [fE (B := fun s => aG N t s.1 s.2) k hB]
    refine qM hw ht hm k _ _ (by omega) (by omega) (by omega) h1 (fun p hp hp2 => ?_)
    by_cases e2 : p = (i + j) / 2
    ·rw [e2]; omega
    ·have := hm ((i + j) / 2) p (by omega) hp2
     omega
  ·have hB : aG N t i j = .out (i, j) := by
    unfold aG
    rw [decide_eq_false (by omega : ¬ ((i : Nat) : Int) < ((j : Nat) : Int))]; rfl
   have e3 : i = j := by omega
   subst e3
   exact ⟨i, hj, fR k hB, h1, h2⟩
theorem ord_at {N : List (U Qd)} (ho : N.Pairwise fun a b => eW a.iv < (eK b.iv : Int)) {p q : Nat} (h : p < q) (hq : q < N.length) : eW (gt N p).iv < (eK (gt N q).iv : Int) := by
 have := List.pairwise_iff_getElem.1 ho p q (by omega) hq h
 rw [gp (by omega), gp hq]; exact this
theorem uB {N : List (U Qd)} (hw : ∀ u ∈ N, Wv u.iv) (ho : N.Pairwise fun a b => eW a.iv < (eK b.iv : Int)) {t : GR} (ht : Tm t) :
 (∃ u ∈ N, inU u.iv (2 * tk t) ∧ cC N t = (u.f, true)) ∨ ((∀ u ∈ N, ¬ inU u.iv (2 * tk t)) ∧ (cC N t).2 = false) := by
 have par : ∀ i : Iv, (eK i = 2 * tk i.lo ∧ i.openLo = false ∨ eK i = 2 * tk i.lo + 1 ∧ i.openLo = true) ∧ (eW i = 2 * (tk i.hi : Int) ∧ i.openHi = false ∨ eW i = 2 * (tk i.hi : Int) - 1 ∧ i.openHi = true) := fun i => by
  rcases tE i with ⟨a1, a2⟩ | ⟨a1, a2⟩ <;> rcases tr i with ⟨b1, b2⟩ | ⟨b1, b2⟩ <;> simp [a1, a2, b1, b2]
 have hm : ∀ p q, p < q → q < N.length → tk (gt N p).iv.hi ≤ tk (gt N q).iv.hi := fun p q h hq => by
  have h1 := ord_at ho h hq
  have h2 := (hw _ (gtm hq)).le
  have := par (gt N p).iv
  have := par (gt N q).iv
  omega
 have hm2 : ∀ p q, p < q → q < N.length → tk (gt N p).iv.lo ≤ tk (gt N q).iv.lo := fun p q h hq => by
  have h1 := ord_at ho h hq
  have h2 := (hw _ (gtm (by omega : p < N.length))).le
  have := par (gt N p).iv
  have := par (gt N q).iv
  omega
 obtain ⟨m, hmn, hl, i1, i2⟩ := qM (fun u hu => (hw u hu).1) ht hm (N.length - 0 + 1) 0 N.length (by omega) (Nat.zero_le _) (Nat.le_refl _) (fun p hp => by omega) (fun p h1 h2 => by omega)
 have hbs : (aK N t).1 = (m : Int) := by
  unfold aK
  rw [eV hl]; rfl
 unfold cC
 rw [hbs, Int.toNat_natCast]
 generalize (⟨(⟨(⟨false, 0⟩ : GI), (⟨false, 0⟩ : GI)⟩ : GQ), (⟨(⟨false, 0⟩ : GI), (⟨false, 0⟩ : GI)⟩ : GQ), (⟨(⟨false, 0⟩ : GI), (⟨false, 0⟩ : GI)⟩ : GQ)⟩ : Qd) = z
 obtain ⟨b, b1, b2, b3, b4⟩ := mE (B := fun s => dp N t s.1 s.2) (fun i => (i, z)) (n := N.length) (brk := fun i => decide ((aE (((gt N i).iv).lo) t) > 0))
  (hit := fun i => ((decide ((aE (((gt N i).iv).lo) t) < 0)) || (!((gt N i).iv).openLo)) && ((!(decide (((gt N i).iv).hi = t))) || (!((gt N i).iv).openHi))) (r := fun i => ((gt N i).f, true)) (o := fun i => (i, z))
  (fun i hi => by
    show dp N t i z = _
    unfold dp
    rw [decide_eq_true (by omega : ((i : Nat) : Int) < ((N.length : Nat) : Int))]; rfl)
  (by
    show dp N t N.length z = _
    unfold dp
    rw [decide_eq_false (by omega : ¬ ((N.length : Nat) : Int) < ((N.length : Nat) : Int))]; rfl) (N.length - m + 1) m hmn (by omega)
 have hk : ∀ i, i < N.length → m ≤ i → decide ((aE (((gt N i).iv).lo) t) > 0) = false →
  ((((decide ((aE (((gt N i).iv).lo) t) < 0)) || (!((gt N i).iv).openLo)) && ((!(decide (((gt N i).iv).hi = t))) || (!((gt N i).iv).openHi))) = true ↔ inU (gt N i).iv (2 * tk t)) := fun i hi hmi hb => by
  have hv := (hw _ (gtm hi)).1
  rw [hv.1.cmp ht] at hb ⊢
  have h2 := i2 i hmi hi
  have hp := par (gt N i).iv
  have he : decide ((gt N i).iv.hi = t) = decide (tk (gt N i).iv.hi = tk t) := decide_eq_decide.2 (hv.2.inj ht).symm
  rw [he]
  unfold inU
  rcases Nat.lt_trichotomy (tk (gt N i).iv.lo) (tk t) with h1 | h1 | h1
  ·rw [fN h1]
   rcases hp with ⟨hp1 | hp1, hp2 | hp2⟩ <;> simp [hp1.1, hp1.2, hp2.1, hp2.2] <;> omega
  ·rw [h1, er]
   rcases hp with ⟨hp1 | hp1, hp2 | hp2⟩ <;> simp [hp1.1, hp1.2, hp2.1, hp2.2] <;> omega
  ·rw [fZ h1] at hb; cases hb
 rcases b4 with ⟨c1, c2, c3, c4⟩ | ⟨c1, c2⟩
 ·exact .inl ⟨gt N b, gtm c1, (hk b c1 b1 c2).1 c3, kq c4⟩
 ·right
  refine ⟨fun u hu hi => ?_, by rw [eV c2]; rfl⟩
  obtain ⟨i, hi2, rfl⟩ := tj hu
  have hp := par (gt N i).iv
  have hi1 := hi.1
  have hi3 := hi.2
  by_cases e1 : i < m
  ·have := i1 i e1
   omega
  ·by_cases e2 : i < b
   ·obtain ⟨d1, d2⟩ := b3 i (by omega) e2
    rw [(hk i hi2 (by omega) d1).2 hi] at d2; cases d2
   ·rcases c1 with c1 | ⟨c1, c3⟩
    ·omega
    ·have hv := (hw _ (gtm c1)).1
     rw [hv.1.cmp ht] at c3
     have h3 : tk t < tk (gt N b).iv.lo := by
      rcases Nat.lt_trichotomy (tk (gt N b).iv.lo) (tk t) with h1 | h1 | h1
      ·rw [fN h1] at c3; cases c3
      ·rw [h1, er] at c3; cases c3
      ·exact h1
     by_cases e3 : i = b
     ·subst e3; omega
     ·have := hm2 b i (by omega) hi2
      omega
end Go.Sx
namespace Go.Sx
theorem pd {p : List Iv} (hp : ∀ i ∈ p, Tv i) {t : GR} (ht : Tm t) : dZ p t = true ↔ inP p (2 * tk t) := by
 have h1 : ∀ i, Tv i → (eN i t = true ↔ inI i (2 * tk t)) := fun i hi => by
  unfold eN inI
  rw [cmpB (a := ay i) (b := ⟨t, false⟩) (by rw [pf]; exact hi.1) ht, cmpB (a := ⟨t, true⟩) (b := aI i) ht (by rw [pl]; exact hi.2)]
  have k1 : kB (⟨t, false⟩ : Bd) = 2 * tk t + 0 := rfl
  have k2 : kB (⟨t, true⟩ : Bd) = 2 * tk t + 1 := rfl
  rw [k1, k2, Bool.and_eq_true, decide_eq_true_eq, decide_eq_true_eq]
  have key : ∀ a b : Nat, sgn a b ≤ 0 ↔ a ≤ b := fun a b => by
   rcases Nat.lt_trichotomy a b with h | h | h
   ·rw [fN h]; simp; omega
   ·rw [h, er]; simp
   ·rw [fZ h]; simp; omega
  rw [key, key]; omega
 unfold dZ dR de
 obtain ⟨b, b1, b2, b3, b4⟩ := mE (B := fun s => bP p t s) (fun i => i) (n := p.length) (brk := fun _ => false) (hit := fun i => eN (gt p i) t) (r := fun i => ((i : Nat) : Int)) (o := fun i => i)
  (fun i hi => by
    show bP p t i = _
    unfold bP
    rw [decide_eq_true (by omega : ((i : Nat) : Int) < ((p.length : Nat) : Int))]; rfl)
  (by
    show bP p t p.length = _
    unfold bP
    rw [decide_eq_false (by omega : ¬ ((p.length : Nat) : Int) < ((p.length : Nat) : Int))]; rfl) (p.length - 0 + 1) 0 (Nat.zero_le _) (by omega)
 rcases b4 with ⟨c1, _, c3, c4⟩ | ⟨c1, c2⟩
 ·rw [kq c4]
  refine ⟨fun _ => ⟨gt p b, gtm c1, (h1 _ (hp _ (gtm c1))).1 c3⟩, fun _ => decide_eq_true (by omega)⟩
 ·rw [eV c2]
  have hb : b = p.length := by
   rcases c1 with c1 | ⟨_, c1⟩
   ·exact c1
   ·cases c1
  subst hb
  refine ⟨fun h => ?_, fun ⟨i, hi, h⟩ => ?_⟩
  ·have : decide ((fg p t p.length) ≥ 0) = true := h
   unfold fg at this
   cases this
  ·obtain ⟨j, hj, rfl⟩ := tj hi
   have := (b3 j (Nat.zero_le _) hj).2
   rw [(h1 _ (hp _ hi)).2 h] at this
   cases this
theorem ub {p : List Iv} (h : Cn p) : fk p = 0 := by
 unfold fk
 refine (eV (mO (n := p.length) (r := (0 : Int)) (bad := fun _ => false) (fun i hi => ?_) ?_ (p.length - 0 + 1) 0 (Nat.zero_le _) (by omega) (fun _ _ _ => rfl))).trans rfl
 ·show dE p i = .go (i + 1)
  unfold dE
  rw [decide_eq_true (by omega : ((i : Nat) : Int) < ((p.length : Nat) : Int)), cond_true, vcheck (h.wv _ (gtm hi))]
  by_cases h0 : i = 0
  ·subst h0; rfl
  ·have hs := List.pairwise_iff_getElem.1 h.sep (i - 1) i (by omega) hi (by omega)
   rw [← gp (by omega : i - 1 < p.length), ← gp hi] at hs
   have w1 := h.wv _ (gtm hi)
   have w0 := h.wv _ (gtm (by omega : i - 1 < p.length))
   have h1 := cmpB (a := aI (gt p (i - 1))) (b := ay (gt p i)) (by rw [pl]; exact w0.1.2) (by rw [pf]; exact w1.1.1)
   rw [fN hs] at h1
   rw [h1, w1.1.1.cmp w0.1.2, show ((((i : Nat) : Int)) == (((0 : Nat) : Int))) = false from beq_eq_false_iff_ne.2 (by omega)]
   rw [pf, pl] at hs
   have hs : 2 * tk (gt p (i - 1)).hi + (bif !(gt p (i - 1)).openHi then 1 else 0) < 2 * tk (gt p i).lo + (bif (gt p i).openLo then 1 else 0) := hs
   have b1 := bb (!(gt p (i - 1)).openHi)
   have b2 := bb (gt p i).openLo
   rcases Nat.lt_or_eq_of_le (by omega : tk (gt p (i - 1)).hi ≤ tk (gt p i).lo) with e | e
   ·rw [fZ e]; rfl
   ·rw [e, er]; rfl
 ·show dE p p.length = _
  unfold dE
  rw [decide_eq_false (by omega : ¬ ((p.length : Nat) : Int) < ((p.length : Nat) : Int))]; rfl
theorem cn_rt {p : List Iv} (h : Cn p) (j : Nat) : RtV (gt p j) := by
 by_cases hj : j < p.length
 ·have := h.wv _ (gtm hj); exact ⟨tm_rt this.1.1, tm_rt this.1.2⟩
 ·rw [show gt p j = default from by unfold gt; rw [List.getD_eq_getElem?_getD, List.getElem?_eq_none (by omega)]; rfl]; exact ⟨.inl rfl, .inl rfl⟩
theorem o8 {n : List (U Qd)} (hw : ∀ u ∈ n, Wv u.iv) : Cn (bC n) ∧ ∀ x, inP (bC n) x ↔ ∃ u ∈ n, inU u.iv x := by
 have hi := kG hw
 obtain ⟨h1, h2⟩ := rT hi
 unfold bC
 refine ⟨h1, fun x => (h2 x).trans ?_⟩
 rw [kH]
 unfold inP
 constructor
 ·rintro ⟨i, hi, h⟩
  obtain ⟨u, hu, rfl⟩ := List.mem_map.1 hi
  exact ⟨u, hu, tB.1 h⟩
 ·rintro ⟨u, hu, h⟩
  exact ⟨u.iv, List.mem_map.2 ⟨u, hu, rfl⟩, tB.2 h⟩
theorem ut {n N : List (U Qd)} (hW : ∀ x ∈ n, Wv x.iv ∧ DOk x.f) (hD : n.Pairwise fun a b => Dj a.iv b.iv) (hN : NF bL bc aV N) (hDN : ∀ x ∈ N, DOk x.f) (hS : Sem bc n N) {t : GR} (ht : Tm t) :
 ed N n t = true ∧ (bg n t).2 = dZ (bC N) t := by
 obtain ⟨d1, d2⟩ := o8 hN.wv
 have hc := (pd (fun i hi => (d1.wv i hi).1) ht).trans (d2 _)
 unfold ed
 rcases rG (fun u hu => (hW u hu).1.1) ht with ⟨w, hw, hi, hv⟩ | ⟨hv1, hv2⟩
 ·obtain ⟨u, hu, k1, k2⟩ := hS.c1 t ht w hw hi
  rw [hv, hc.2 ⟨u, hu, k1⟩]
  refine ⟨?_, rfl⟩
  rcases uB hN.wv hN.ord ht with ⟨u2, hu2, a1, a2⟩ | ⟨a1, _⟩
  ·rw [a2, hN.one hu2 hu a1 k1]
   show ((true == true) && (!true || eD u.f w.f t)) = true
   have : eD u.f w.f t = true := by unfold bc at k2; exact k2
   rw [this]; rfl
  ·exact absurd k1 (a1 u hu)
 ·have hno : ∀ u ∈ N, ¬ inU u.iv (2 * tk t) := fun u hu hi => by
   obtain ⟨w, hw, k1, _⟩ := hS.s1 t ht u hu hi
   exact hv1 w hw k1
  have hcf : dZ (bC N) t = false := by
   cases h : dZ (bC N) t with
   | false => rfl
   | true => obtain ⟨u, hu, h1⟩ := hc.1 h; exact absurd h1 (hno u hu)
  rw [hv2, hcf]
  refine ⟨?_, rfl⟩
  rcases uB hN.wv hN.ord ht with ⟨u2, hu2, a1, a2⟩ | ⟨_, a2⟩
  ·exact absurd a1 (hno u2 hu2)
  ·rw [a2]; rfl
theorem qH {n : List (U Qd)} (hw : ∀ u ∈ n, Wv u.iv) : Ts (aq n []) ∧ ∀ y, y ∈ aq n [] ↔ En n y := by
 rw [lL]
 obtain ⟨h1, h2⟩ := lM (l := n.map (·.iv)) (fun i hi => by obtain ⟨x, hx, rfl⟩ := List.mem_map.1 hi; exact (hw x hx).1)
 refine ⟨h1, fun y => (h2 y).trans ?_⟩
 constructor
 ·rintro ⟨i, hi, h⟩
  obtain ⟨x, hx, rfl⟩ := List.mem_map.1 hi
  exact ⟨x, hx, h⟩
 ·rintro ⟨x, hx, h⟩
  exact ⟨x.iv, List.mem_map.2 ⟨x, hx, rfl⟩, h⟩
def FarE (n : List (U Qd)) : Prop := (∀ e, En n e → 10 ≤ tk e ∧ tk e < 435) ∧ ∀ e f, En n e → En n f → Far e f
theorem tO {n : List (U Qd)} (hw : ∀ u ∈ n, Wv u.iv) (hf : FarE n) : ∀ i, 0 < i → i < (aq n []).length → BtP (gt (aq n []) (i - 1)) (gt (aq n []) i) ∧ tk (gt (aq n []) (i - 1)) < 435 ∧ 10 ≤ tk (gt (aq n []) (i - 1)) := fun i h0 hi => by
 obtain ⟨⟨h1, h2⟩, h3⟩ := qH hw
 have m1 := gtm (by omega : i - 1 < (aq n []).length)
 have m2 := gtm hi
 have hlt := List.pairwise_iff_getElem.1 h2 (i - 1) i (by omega) hi (by omega)
 rw [← gp (by omega : i - 1 < (aq n []).length), ← gp hi] at hlt
 have f1 := hf.1 _ ((h3 _).1 m1)
 have f2 := hf.1 _ ((h3 _).1 m2)
 have f3 := hf.2 _ _ ((h3 _).1 m1) ((h3 _).1 m2)
 unfold Far at f3
 exact ⟨bt_of (h1 _ m1) (h1 _ m2) f1.1 f1.2 f2.2 (by omega), f1.2, f1.1⟩
theorem pL (n : Int) (h : n = -1 ∨ n = 1000 ∨ (0 ≤ n ∧ n < 45)) : Tm (a8 n) := ⟨n, false, h, by unfold ab; rfl⟩
theorem rW {n : List (U Qd)} (hw : ∀ u ∈ n, Wv u.iv) (hf : FarE n) : ∀ t ∈ aC n, Tm t := by
 have hT := (qH hw).1.1
 have hB := tO hw hf
 unfold aC
 have key : ∀ k i (out : List GR), (∀ t ∈ out, Tm t) → ∀ t ∈ fin (bR (fun s => bh n s.1 s.2) k (out, i)) (fun s => gy n s.1 s.2) (fun r => r), Tm t := by
  intro k
  induction k with
  | zero => intro i out h; exact h
  | succ k ih =>
   intro i out h
   by_cases hi : i < (aq n []).length
   ·have hg := hT _ (gtm hi)
    have e1 : ∀ t ∈ out ++ [gt (aq n []) i], Tm t := fun t ht => by
     rcases List.mem_append.1 ht with ht | ht
     ·exact h t ht
     ·rw [List.mem_singleton.1 ht]; exact hg
    by_cases h0 : 0 < i
    ·have hb := hB i h0 hi
     have hB1 : bh n out i = .go (((out ++ [gt (aq n []) i]) ++ [dm ((cP (gt (aq n []) (i - 1)) (gt (aq n []) i)).1)]), i + 1) := by
      unfold bh
      rw [decide_eq_true (by omega : ((i : Nat) : Int) < (((aq n []).length : Nat) : Int)), decide_eq_true (by omega : ((i : Nat) : Int) > 0)]
      rw [show (cP (gt (aq n []) (i - 1)) (gt (aq n []) i)).2 = 0 by unfold cP; rfl]
      rfl
     rw [fE (B := fun s => bh n s.1 s.2) k hB1]
     refine ih _ _ fun t ht => ?_
     rcases List.mem_append.1 ht with ht | ht
     ·exact e1 t ht
     ·rw [List.mem_singleton.1 ht]
      have := (nx_ok hb.1.1 hb.2.2 hb.2.1).2.2.1
      have e : (cP (gt (aq n []) (i - 1)) (gt (aq n []) i)).1 = nxt (gt (aq n []) (i - 1)) := by unfold cP fh nxt; rfl
      rw [e]; exact this
    ·have hB1 : bh n out i = .go (out ++ [gt (aq n []) i], i + 1) := by
      unfold bh
      rw [decide_eq_true (by omega : ((i : Nat) : Int) < (((aq n []).length : Nat) : Int)), decide_eq_false (by omega : ¬ ((i : Nat) : Int) > 0)]
      rfl
     rw [fE (B := fun s => bh n s.1 s.2) k hB1]
     exact ih _ _ e1
   ·have hB1 : bh n out i = .out (out, i) := by
     unfold bh
     rw [decide_eq_false (by omega : ¬ ((i : Nat) : Int) < (((aq n []).length : Nat) : Int))]; rfl
    rw [fR (B := fun s => bh n s.1 s.2) k hB1]
    exact h
 exact key _ _ _ fun t ht => by
  simp only [List.mem_cons, List.not_mem_nil, or_false] at ht
  rcases ht with rfl | rfl
  ·exact pL _ (.inl rfl)
  ·exact pL _ (.inr (.inl rfl))
end Go.Sx
namespace Go.Sx
def pc (s : List GR) : Nat → List GR
 | 0 => []
 | n + 1 => pc s n ++ (bif (n == 0) || !(decide (gt s n = gt s (n - 1))) then [gt s n] else [])
theorem nr {s : List GR} {n : Nat} (h : ¬ gt s n = gt s (n - 1)) : pc s (n + 1) = pc s n ++ [gt s n] := by
 show pc s n ++ _ = _
 rw [decide_eq_false h, Bool.not_false, Bool.or_true]; rfl
theorem ns {s : List GR} {n : Nat} (h0 : 0 < n) (h : gt s n = gt s (n - 1)) : pc s (n + 1) = pc s n := by
 show pc s n ++ _ = _
 rw [decide_eq_true h, beq_eq_false_iff_ne.2 (by omega : n ≠ 0)]
 exact List.append_nil _
theorem jd {s : List GR} {n : Nat} (h : n < s.length) : s.take (n + 1) = s.take n ++ [gt s n] := by
 rw [gp h, List.take_append_getElem]
theorem ou {s : List GR} {n : Nat} {x : GR} (h : n < s.length) : (s.set n x).take (n + 1) = s.take n ++ [x] := by
 rw [jd (by rw [List.length_set]; exact h), nc h, List.take_set_of_le (Nat.le_refl n)]
theorem cp_in {s m : List GR} {k1 : Nat} : ∀ k q j (ys : List GR), 1 ≤ j → k1 ≤ q → q < k1 + j → k1 + j ≤ s.length → (s.length - k1) - j < k → ys.length = s.length → (∀ p, k1 + j ≤ p + 1 → gt ys p = gt s p) → ys.take q = pc s (k1 + j) →
 ∃ q' j' ys', bR (fun t => bN s k1 m t.1 t.2.1 t.2.2) k (q, j, ys) = .inl (q', j', ys') ∧ ys'.take q' = pc s s.length
 | k + 1, q, j, ys, h1, h2, h3, h4, hk, hl, he, ht => by
  by_cases e : j < s.length - k1
  ·have g1 : gt ys (k1 + j) = gt s (k1 + j) := he _ (by omega)
   have g2 : gt ys (k1 + (j - 1)) = gt s (k1 + j - 1) := by rw [show k1 + j - 1 = k1 + (j - 1) by omega]; exact he _ (by omega)
   by_cases hd : gt s (k1 + j) = gt s (k1 + j - 1)
   ·have hB : bN s k1 m q j ys = .go (q, j + 1, ys) := by
     unfold bN
     rw [decide_eq_true (by omega : ((j : Nat) : Int) < (((s.length - k1 : Nat)) : Int)), g1, g2, decide_eq_true hd]; rfl
    rw [fE (B := fun t => bN s k1 m t.1 t.2.1 t.2.2) k hB]
    refine cp_in k q (j + 1) ys (by omega) h2 (by omega) (by omega) (by omega) hl (fun p hp => he p (by omega)) ?_
    rw [ht, show k1 + (j + 1) = (k1 + j) + 1 by omega, ns (by omega) hd]
   ·have hB : bN s k1 m q j ys = .go (q + 1, j + 1, ys.set q (gt ys (k1 + j))) := by
     unfold bN
     rw [decide_eq_true (by omega : ((j : Nat) : Int) < (((s.length - k1 : Nat)) : Int)), g1, g2, decide_eq_false hd]; rfl
    rw [fE (B := fun t => bN s k1 m t.1 t.2.1 t.2.2) k hB]
    refine cp_in k (q + 1) (j + 1) _ (by omega) (by omega) (by omega) (by omega) (by omega) (by rw [List.length_set]; exact hl) (fun p hp => ?_) ?_
    ·rw [qa (by omega)]; exact he p (by omega)
    ·rw [ou (by omega), ht, show k1 + (j + 1) = (k1 + j) + 1 by omega, nr hd, g1]
  ·have hB : bN s k1 m q j ys = .out (q, j, ys) := by
    unfold bN
    rw [decide_eq_false (by omega : ¬ ((j : Nat) : Int) < (((s.length - k1 : Nat)) : Int))]; rfl
   exact ⟨q, j, ys, fR k hB, by rw [ht, show k1 + j = s.length by omega]⟩
theorem cp_out {s : List GR} : ∀ k k1, 1 ≤ k1 → k1 ≤ s.length → s.length - k1 < k → pc s k1 = s.take k1 →
 fin (bR (fun t => bI s t.1 t.2) k (k1, s)) (fun t => fq s t.1 t.2) (fun r => r) = pc s s.length
 | k + 1, k1, h1, h2, hk, hc => by
  by_cases e : k1 < s.length
  ·by_cases hd : gt s k1 = gt s (k1 - 1)
   ·obtain ⟨q', j', ys', i1, i2⟩ := cp_in (s := s) (m := s) (k1 := k1) (s.length - k1 - 1 + 1) k1 1 s (Nat.le_refl 1) (Nat.le_refl _) (by omega) (by omega) (by omega) rfl (fun p _ => rfl) (by rw [← hc, ns (by omega) hd])
    have hB : bI s k1 s = .ret (pc s s.length) := by
     unfold bI
     rw [decide_eq_true (by omega : ((k1 : Nat) : Int) < ((s.length : Nat) : Int)), decide_eq_true hd, cond_true, cond_true]
     refine (eV i1).trans ?_
     show gf s k1 s q' j' ys' = _
     unfold gf
     rw [i2]
    exact kq (pR (B := fun t => bI s t.1 t.2) k hB)
   ·have hB : bI s k1 s = .go (k1 + 1, s) := by
     unfold bI
     rw [decide_eq_true (by omega : ((k1 : Nat) : Int) < ((s.length : Nat) : Int)), decide_eq_false hd]; rfl
    rw [fE (B := fun t => bI s t.1 t.2) k hB]
    exact cp_out k (k1 + 1) (by omega) (by omega) (by omega) (by rw [nr hd, hc, jd e])
  ·have hB : bI s k1 s = .out (k1, s) := by
    unfold bI
    rw [decide_eq_false (by omega : ¬ ((k1 : Nat) : Int) < ((s.length : Nat) : Int))]; rfl
   rw [eV (fR (B := fun t => bI s t.1 t.2) k hB)]
   show fq s k1 s = _
   unfold fq
   have : k1 = s.length := by omega
   rw [this] at hc
   rw [hc, List.take_length]
theorem sa (s : List GR) : cv s = pc s s.length := by
 unfold cv
 by_cases h : s.length < 2
 ·rw [decide_eq_true (by omega : ((s.length : Nat) : Int) < 2), cond_true]
  match s, h with
  | [], _ => rfl
  | [x], _ => rfl
 ·rw [decide_eq_false (by omega : ¬ ((s.length : Nat) : Int) < 2), cond_false]
  refine cp_out _ 1 (Nat.le_refl 1) (by omega) (by omega) ?_
  rw [jd (by omega)]
  rfl
theorem nq {s : List GR} (hT : ∀ x ∈ s, Tm x) (hp : s.Pairwise fun x y => tk x ≤ tk y) : ∀ n, n ≤ s.length →
 (pc s n).Pairwise (fun x y => tk x < tk y) ∧ (∀ x, x ∈ pc s n ↔ x ∈ s.take n) ∧ (0 < n → ∀ x ∈ pc s n, tk x ≤ tk (gt s (n - 1)))
 | 0, _ => ⟨List.Pairwise.nil, fun x => by simp [pc], fun h => by omega⟩
 | n + 1, hn => by
  obtain ⟨i1, i2, i3⟩ := nq hT hp n (by omega)
  have hlast : ∀ x ∈ pc s n, tk x ≤ tk (gt s n) := fun x hx => by
   have := (i2 x).1 hx
   obtain ⟨j, hj, e⟩ := List.getElem_of_mem this
   rw [List.length_take] at hj
   rw [List.getElem_take] at e
   have := List.pairwise_iff_getElem.1 hp j n (by omega) (by omega) (by omega)
   rw [e] at this
   rw [gp (by omega)]; exact this
  by_cases h0 : n = 0
  ·subst h0
   have e : pc s 1 = [gt s 0] := rfl
   rw [e, jd (by omega)]
   exact ⟨List.pairwise_singleton _ _, fun x => by simp, fun _ x hx => by rw [List.mem_singleton.1 hx]; exact Nat.le_refl _⟩
  ·by_cases hd : gt s n = gt s (n - 1)
   ·rw [ns (by omega) hd]
    refine ⟨i1, fun x => ?_, fun _ x hx => hlast x hx⟩
    rw [i2, jd (by omega), List.mem_append, List.mem_singleton]
    refine ⟨.inl, fun h => ?_⟩
    rcases h with h | h
    ·exact h
    ·rw [h, hd]
     have : gt s (n - 1) ∈ s.take (n - 1 + 1) := by rw [jd (by omega)]; simp
     rwa [show n - 1 + 1 = n by omega] at this
   ·rw [nr hd]
    have hlt : tk (gt s (n - 1)) < tk (gt s n) := by
     have h1 := List.pairwise_iff_getElem.1 hp (n - 1) n (by omega) (by omega) (by omega)
     rw [← gp (by omega : n - 1 < s.length), ← gp (by omega : n < s.length)] at h1
     have h2 := (hT _ (gtm (by omega : n < s.length))).inj (hT _ (gtm (by omega : n - 1 < s.length)))
     by_cases e : tk (gt s n) = tk (gt s (n - 1))
     ·exact absurd (h2.1 e) hd
     ·omega
    refine ⟨?_, fun x => ?_, fun _ x hx => ?_⟩
    ·rw [List.pairwise_append]
     refine ⟨i1, List.pairwise_singleton _ _, fun x hx y hy => ?_⟩
     rw [List.mem_singleton.1 hy]
     have := i3 (by omega) x hx
     omega
    ·rw [List.mem_append, i2, jd (by omega), List.mem_append]
    ·show tk x ≤ tk (gt s n)
     rcases List.mem_append.1 hx with hx | hx
     ·exact hlast x hx
     ·rw [List.mem_singleton.1 hx]; exact Nat.le_refl _
theorem pends_is (n : List (U Qd)) : bn n = cv (n.flatMap fun u => [u.iv.lo, u.iv.hi]) := by
 have h := jR (R := List GR) (f := fun (o : List GR) (i : Iv) => o ++ [i.lo, i.hi]) (aO n) (B := fun s => dz n s.1 s.2) (fun o i hi => by
  show dz n o i = _
  unfold dz
  rw [decide_eq_true (by omega : ((i : Nat) : Int) < (((aO n).length : Nat) : Int))]; rfl) (fun o => by
  show dz n o (aO n).length = _
  unfold dz
  rw [decide_eq_false (by omega : ¬ (((aO n).length : Nat) : Int) < (((aO n).length : Nat) : Int))]; rfl) (aO n) [] [] ((aO n).length - 0 + 1) rfl (by omega)
 unfold bn
 refine (eV h).trans ?_
 show hG n _ _ = _
 unfold hG
 rw [jQ, List.nil_append]
 show cv ((aO n).flatMap fun i => [i.lo, i.hi]) = _
 rw [kH, List.flatMap_map]
theorem tM {N : List (U Qd)} (hw : ∀ u ∈ N, Wv u.iv) (ho : N.Pairwise fun a b => eW a.iv < (eK b.iv : Int)) : bn N = aq N [] := by
 obtain ⟨⟨e1, e2⟩, e3⟩ := qH hw
 rw [pends_is, sa]
 generalize hL : (N.flatMap fun u => [u.iv.lo, u.iv.hi]) = L
 have hmem : ∀ x, x ∈ L ↔ En N x := fun x => by
  rw [← hL, List.mem_flatMap]
  constructor
  ·rintro ⟨u, hu, h⟩
   simp only [List.mem_cons, List.not_mem_nil, or_false] at h
   exact ⟨u, hu, h⟩
  ·rintro ⟨u, hu, h⟩
   exact ⟨u, hu, by simp only [List.mem_cons, List.not_mem_nil, or_false]; exact h⟩
 have hT : ∀ x ∈ L, Tm x := fun x hx => by
  obtain ⟨u, hu, h⟩ := (hmem x).1 hx
  rcases h with rfl | rfl
  ·exact (hw u hu).1.1
  ·exact (hw u hu).1.2
 have hp : L.Pairwise fun x y => tk x ≤ tk y := by
  rw [← hL, List.pairwise_flatMap]
  refine ⟨fun u hu => ?_, ho.imp_of_mem fun {a b} ha hb h x hx y hy => ?_⟩
  ·have := (hw u hu).2.1
   simp only [List.pairwise_cons, List.mem_singleton, forall_eq, List.not_mem_nil, false_implies, implies_true, List.Pairwise.nil, and_true]
   exact this
  ·have h1 := (hw a ha).2.1
   have h2 := (hw b hb).2.1
   simp only [List.mem_cons, List.not_mem_nil, or_false] at hx hy
   rcases tE b.iv with ⟨_, f1⟩ | ⟨_, f1⟩ <;> rcases tr a.iv with ⟨_, f2⟩ | ⟨_, f2⟩ <;> rcases hx with rfl | rfl <;> rcases hy with rfl | rfl <;> omega
 obtain ⟨c1, c2, _⟩ := nq hT hp L.length (Nat.le_refl _)
 refine mM (k := tk) c1 e2 fun x => ?_
 rw [c2, List.take_length, hmem]
 exact (e3 x).symm
end Go.Sx
namespace Go.Sx
theorem bn_is (l : List Stp) : au (am l) = (ce (am l), 0) :=
 k8 (fun a b => (jg a b).1) (List.Perm.refl _) (fun x hx => (lP l x hx).1) (jb l).2
theorem mo_e (l : List Stp) : (au (am l)).2 = 0 := by rw [bn_is]
theorem mo_w (l : List Stp) : ∀ u ∈ (au (am l)).1, Wv u.iv := by rw [bn_is]; exact (bn_nf l).1.wv
theorem mo_z (l : List Stp) : All (jI 30) (au (am l)).1 := by rw [bn_is]; exact bn_sz l
theorem mo_l (l : List Stp) : (au (am l)).1.length ≤ (am l).length := by rw [bn_is]; exact bn_len l
theorem mo_far (l : List Stp) : FarE (am l) := uk l
theorem mo_gap (l : List Stp) : ∀ i, 0 < i → i < (aq (am l) []).length → BtP (gt (aq (am l) []) (i - 1)) (gt (aq (am l) []) i) := fun i h0 hi => (tO (fun u hu => (lP l u hu).1) (mo_far l) i h0 hi).1
theorem mo_rt (l : List Stp) : ∀ j, RtV (gt (bC (au (am l)).1) j) := cn_rt (o8 (mo_w l)).1
theorem mo_chk (l : List Stp) : fk (bC (au (am l)).1) = 0 := ub (o8 (mo_w l)).1
theorem mo_ag (l : List Stp) {i : Nat} (hi : i < (aC (am l)).length) : ed (au (am l)).1 (am l) (gt (aC (am l)) i) = true ∧
 dZ (bC (au (am l)).1) (gt (aC (am l)) i) = (bg (am l) (gt (aC (am l)) i)).2 := by
 obtain ⟨N, h1, h2, h3, h4⟩ := pM (lP l) (jb l).2
 have ht := rW (fun u hu => (lP l u hu).1) (mo_far l) _ (gtm hi)
 rw [h1]
 have := ut (lP l) (jb l).2 h2 h3 h4 ht
 exact ⟨this.1, this.2.symm⟩
theorem mo_ends (l : List Stp) : bn (au (am l)).1 = aq (au (am l)).1 [] := by
 obtain ⟨N, h1, h2, h3, h4⟩ := pM (lP l) (jb l).2
 rw [h1]
 exact tM h2.wv h2.ord
open Go Go.RowKit Go.Proofs
def gm (l : List (U Qd)) : List GR := aq l []
theorem nm (l : List (U Qd)) (lv : Value) (hl : l.length ≤ 100) (zl : All (jI 30) l) (w0 : World) (hlv : View w0 lv l) :
 Calls Tryz.prog 61 #[lv, .slice none 0 0] w0 (RetR w0 71 (gm l) (All (SzR 30) (gm l) ∧ (gm l).length ≤ 2 * l.length)) := by
 have hs : ∃ Z_, Sep w0.heap.size w0 [Asn.row (α := GR) 71 (.slice none 0 0) ([] : List GR), Asn.emp] Z_ :=
  ⟨fun _ => False, fun _ => False, fun _ => False, fun k => by simp, fun _ h => h.elim, fun _ h => h.elim, ⟨⟨by simp [flat], .inl ⟨rfl, rfl⟩⟩, fun k => by simp [Value.ownBlock]⟩, sep_addE fun _ => id⟩
 refine (ib l lv [] (.slice none 0 0) hl (by simp) zl All.nil w0 w0 Asn.emp (Below.refl _ _) hs hlv).mono ?_
 rintro e w' ⟨v, rfl, ⟨hz, hn⟩, hb, U, hU⟩
 obtain ⟨f, V, hUV, hd, hf, hr, hE⟩ := hU
 have hS : Sep w0.heap.size w' [Asn.row (α := GR) 71 v (aq l [])] U := by
  obtain ⟨g, W, hV, _, _, hg, hW⟩ := hE
  have hVn : ∀ k, ¬ V k := fun k hk => ((hV k).1 hk).elim (hg k) (hW k)
  exact ⟨f, V, hUV, hd, hf, hr, hVn⟩
 refine ⟨v, U, rfl, ⟨nY hr.1, hz, by unfold gm; simpa using hn⟩, Moves.of_below hb fun k hk => (hS.range k hk).1, hS⟩
end Go.Sx
