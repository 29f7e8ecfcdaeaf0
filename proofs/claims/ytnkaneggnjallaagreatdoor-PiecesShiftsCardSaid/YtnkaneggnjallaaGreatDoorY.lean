/- A part of the proof that the law PiecesShifts answers true at every input and leaves its arguments as they were. -/
import Derived.Test.YtnkaneggnjallaaGreatDoorProg
import Derived.Test.YtnkaneggnjallaaGreatDoorQ2
import Derived.Test.YtnkaneggnjallaaGreatDoorA7
import Derived.Test.YtnkaneggnjallaaGreatDoorX
set_option linter.unusedVariables false
set_option linter.unusedSimpArgs false
open Go.Proofs.Tryz renaming runUnderlying38 → uu38, sizeOf9 → zz9, isAgg9 → aa9, sizeOf4 → zz4, isAgg4 → aa4, runUnderlying40 → uu40, sizeOf38 → zz38, isAgg38 → aa38, runUnderlying87 → uu87, sizeOf55 → zz55, isAgg55 → aa55, sizeOf69 → zz69, isAgg69 → aa69, runUnderlying24 → uu24, sizeOf87 → zz87, isAgg87 → aa87, zeroValue87 → vv87, runUnderlying69 → uu69, sizeOf40 → zz40, isAgg40 → aa40, runUnderlying237 → uu237, zeroValue40 → vv40, call104 → cc104, zeroValue203 → vv203, runUnderlying55 → uu55, sizeOf53 → zz53, isAgg53 → aa53, sizeOf203 → zz203, runUnderlying203 → uu203, zeroValue38 → vv38, runUnderlying53 → uu53
namespace Go.Sx
open Go Go.RowKit Go.Proofs
set_option maxRecDepth 100000
set_option maxHeartbeats 40000000
attribute [local irreducible] aD bN ah aL bt aN aK aF cY bj ar
def eC (a : GI) : Int :=
 bif (((decide (a.mag = 0)) && a.neg) || ((!(decide (a.mag = 0))) && (((((qj a.mag) : Nat) : Int)) == (((0 : Nat) : Int))))) then
  5
 else
  0
theorem i0 (a : GI) (za : SzI 16 a) (w0 : World)  : Calls Tryz.prog 162 #[(vI a)] w0 (ec w0 (.int .i64 (eC a)) (True)) := by
 refine enter (N := 21) (args := [(vI a)]) Tryz.func162 rfl rfl ?_; intro ac h
 refine dU fun K1 hK1 => ?_
 refine bx h (cI a) rfl rfl rfl fun b1 => g0 (ae rfl) rfl <| gn hK1 <| gq fun K2 hK2 => gr fun K3 hK3 => g0 (fa uu38 rfl zz9 rfl rfl rfl (k' := 1)) rfl <| g1 0 rfl (aX aa9 zz9 rfl rfl rfl (v := (.string (bs a.mag))) rfl) rfl <| g0 (mF rfl rfl (m := a.mag) (n := 0)) rfl <| g0 (af rfl) rfl <| ge1 rfl rfl (fun hg => (Rd.of_nil (fa uu38 rfl zz4 rfl rfl rfl (k' := 0))).step) rfl <| ge1 rfl rfl (fun hg => (Rd.of_mem (i := 0) (aX aa4 zz4 (ap rfl hg) rfl rfl (v := (.bool a.neg)) rfl) rfl).step) rfl <| g0 (ef rfl (fun e => (ap rfl e))) rfl <| g0 (af rfl) rfl <| ge2 rfl rfl (fun hg => (Rd.of_nil (fa uu38 rfl zz9 rfl rfl rfl (k' := 1))).step) rfl <| ge2 rfl rfl (fun hg => (Rd.of_mem (i := 0) (aX aa9 zz9 (ap rfl hg) rfl rfl (v := (.string (bs a.mag))) rfl) rfl).step) rfl <| ge2 rfl rfl (fun hg => (Rd.of_nil (lD (ap rfl hg) rfl (m := a.mag) (n := 0))).step) rfl <| ge2 rfl rfl (fun hg => (Rd.of_nil (af (ap rfl hg))).step) rfl <| ge3 rfl rfl (fun hg => (Rd.of_nil (fa uu38 rfl zz9 rfl rfl rfl (k' := 1))).step) rfl <| ge3 rfl rfl (fun hg => (Rd.of_mem (i := 0) (aX aa9 zz9 (ap rfl hg) rfl rfl (v := (.string (bs a.mag))) rfl) rfl).step) rfl <| ge3 rfl rfl (fun hg => (Rd.of_nil (oZ Tryz.runUnderlying9 (ap rfl hg) rfl (by first | omega | (simp at hg; omega) | grind))).step) rfl <| ge3 rfl rfl (fun hg => (Rd.of_nil (fj (ap rfl hg) rfl (m := (((qj a.mag) : Nat) : Int)) (n := ((0 : Nat) : Int)))).step) rfl <| ge2 rfl rfl (fun hg => (Rd.of_nil (ef (ap rfl hg) (fun e => (ap rfl (andI hg e))))).step) rfl <| g0 (np rfl (fun e => (ap rfl (nq e)))) rfl <| gn hK3 ?_; clear h ac; intro ac wo h
 replace h := h.sub (F' := [(20, (.bool (((decide (a.mag = 0)) && a.neg) || ((!(decide (a.mag = 0))) && (((((qj a.mag) : Nat) : Int)) == (((0 : Nat) : Int)))))))]) ⟨rfl, trivial⟩
 refine cO h rfl (fun hc1 => ?_) (fun hc1 => ?_)
 ·
  have hq1 := hc1; try simp at hq1
  refine gz h <| gr fun K4 hK4 => g0 (ae rfl) rfl <| gn hK4 <| gT ?_; clear h ac wo; intro ac wo h
  have hd : eC a = 5 := (cT hc1)
  exact ret h rfl (.tmp rfl .nil) rfl (h.retP (by rw [hd] <;> rfl) trivial)
 ·
  have hq1 := hc1; try simp at hq1
  refine gz h <| gS <| gx hK2 <| gr fun K5 hK5 => g0 (ae rfl) rfl <| gn hK5 <| gT ?_; clear h ac wo; intro ac wo h
  have hd : eC a = 0 := (cF hc1)
  exact ret h rfl (.tmp rfl .nil) rfl (h.retP (by rw [hd] <;> rfl) trivial)
attribute [irreducible] eC
def cN (a : GQ) : Int :=
 bif (((eC a.num) != 0) || ((eC a.den) != 0)) then
  5
 else
  bif (decide (a.den = (⟨false, 0⟩ : GI))) then
   0
  else
   bif ((decide ((aR a.den rational_one) ≤ 0)) || (!(decide ((aB a.num a.den) = rational_one)))) then
    5
   else
    0
theorem fZ (a : GQ) (za : SzQ 16 a) (w0 : World)  : Calls Tryz.prog 104 #[(vQ a)] w0 (ec w0 (.int .i64 (cN a)) (True)) := by
  refine enter (N := 31) (args := [(vQ a)]) Tryz.func104 rfl rfl ?_; intro ac h
  refine dU fun K1 hK1 => ?_
  refine bx h (cQ a) rfl rfl rfl fun b1 => g0 (ae rfl) rfl <| gn hK1 <| gq fun K2 hK2 => gr fun K3 hK3 => g0 (fa uu40 rfl zz38 rfl rfl rfl (k' := 0)) rfl <| g1 0 rfl (aX aa38 zz38 rfl rfl rfl (v := (vI a.num)) rfl) rfl <| gc (bL Tryz.call162 rfl) (kk (i0 a.num za.1)) rfl <| g0 (gw rfl rfl) rfl <| g0 (af rfl) rfl <| ge2 rfl rfl (fun hg => (Rd.of_nil (fa uu40 rfl zz38 rfl rfl rfl (k' := 2))).step) rfl <| ge2 rfl rfl (fun hg => (Rd.of_mem (i := 0) (aX aa38 zz38 (ap rfl hg) rfl rfl (v := (vI a.den)) rfl) rfl).step) rfl <| ge2 rfl rfl (fun hg => dr (bL Tryz.call162 (br (ap rfl hg) rfl)) (kk (i0 a.den za.2))) rfl <| ge2 rfl rfl (fun hg => (Rd.of_nil (gw (ap rfl hg) rfl)).step) rfl <| g0 (np rfl (fun e => (ap rfl (nq e)))) rfl <| gn hK3 ?_; clear h ac; intro ac wo h
  refine cO h rfl (fun hc1 => ?_) (fun hc1 => ?_)
  · skip
    have hq1 := hc1; try simp at hq1
    refine gz h <| gr fun K4 hK4 => g0 (ae rfl) rfl <| gn hK4 <| gT ?_; clear h ac wo; intro ac wo h
    have hd : cN a = 5 := (cT hc1)
    exact ret h rfl (.tmp rfl .nil) rfl (h.retP (by rw [hd] <;> rfl) trivial)
  · skip
    have hq1 := hc1; try simp at hq1
    refine gz h <| gS <| gx hK2 <| gq fun K5 hK5 => gr fun K6 hK6 => g0 (fa uu40 rfl zz38 rfl rfl rfl (k' := 2)) rfl <| g1 0 rfl (aX aa38 zz38 rfl rfl rfl (v := (vI a.den)) rfl) rfl <| g0 (bC nh rfl rfl (v := (vI (⟨false, 0⟩ : GI))) rfl) rfl <| g0 (fM pX rfl rfl) rfl <| gn hK6 ?_; clear h ac wo; intro ac wo h
    replace h := h.sub (F' := [(1, (ptr b1 0)), (16, (.bool (decide (a.den = (⟨false, 0⟩ : GI)))))]) ⟨rfl, rfl, trivial⟩
    refine cO h rfl (fun hc2 => ?_) (fun hc2 => ?_)
    · skip
      have hd2 := of_decide_eq_true hc2
      refine gz h <| gr fun K7 hK7 => g0 (ae rfl) rfl <| gn hK7 <| gT ?_; clear h ac wo; intro ac wo h
      have hd : cN a = 0 := (Eq.trans (cF hc1) (cT hc2))
      exact ret h rfl (.tmp rfl .nil) rfl (h.retP (by rw [hd] <;> rfl) trivial)
    · skip
      have hd2 := of_decide_eq_false hc2
      refine dZ ?_
      refine hK5 _ _ ?_
      refine dy fun K8 hK8 => ?_
      refine dy fun K9 hK9 => ?_
      have c1 := d6  40 (by omega) 
      have s1 := aA (c1 w0)
      have p3 := aA ((e9 a.den rational_one 16 (by omega) za.2 (ig s1 (by omega))) w0)
      have s4 := aA ((gm a.num a.den 16 (by omega) za.1 za.2) w0)
      have s5 := aA ((d6  40 (by omega) ) w0)
      refine cv mixed [⟨.det (ptr b1 2), []⟩, ⟨.det (vI a.den), [0]⟩, ⟨.det (vI rational_one), []⟩, ⟨.det (.int .i64 (aR a.den rational_one)), []⟩, ⟨.det (.bool (decide ((aR a.den rational_one) ≤ 0))), []⟩, ⟨.det (.bool (decide ((aR a.den rational_one) ≤ 0))), []⟩, ⟨.det (gv (!(decide ((aR a.den rational_one) ≤ 0))) (ptr b1 0)), []⟩, ⟨.det (gv (!(decide ((aR a.den rational_one) ≤ 0))) (vI a.num)), [0]⟩, ⟨.det (gv (!(decide ((aR a.den rational_one) ≤ 0))) (ptr b1 2)), []⟩, ⟨.det (gv (!(decide ((aR a.den rational_one) ≤ 0))) (vI a.den)), [0]⟩, ⟨.det (gv (!(decide ((aR a.den rational_one) ≤ 0))) (vI (aB a.num a.den))), []⟩, ⟨.det (gv (!(decide ((aR a.den rational_one) ≤ 0))) (vI rational_one)), []⟩, ⟨.det (gv (!(decide ((aR a.den rational_one) ≤ 0))) (.bool (!(decide ((aB a.num a.den) = rational_one))))), []⟩, ⟨.det (.bool ((decide ((aR a.den rational_one) ≤ 0)) || (!(decide ((aB a.num a.den) = rational_one))))), []⟩] [⟨.blk b1 (cQ a) 40, []⟩] h rfl (by kernel_rfl) ⟨?_, ?_, ?_, ?_, ?_, ?_, ?_, ?_, ?_, ?_, ?_, ?_, ?_, ?_, trivial⟩ ?_
      · intro ξ hφ; exact aC (fa uu40 rfl zz38 rfl rfl rfl (k' := 2))
      · intro ξ hφ; exact cr [.blk b1 (cQ a) 40] rfl rfl (aX aa38 zz38 rfl rfl rfl (v := (vI a.den)) rfl)
      · intro ξ hφ; exact dW (dr (bL Tryz.call164 rfl) (kk c1))
      · intro ξ hφ; exact dW (dr (bL Tryz.call163 rfl) (kk (e9 a.den rational_one 16 (by omega) za.2 (ig s1 (by omega)))))
      · intro ξ hφ; exact aC (r_leq rfl rfl)
      · intro ξ hφ; exact aC (af rfl)
      · intro ξ hφ; exact iT (c := true) (b := (decide ((aR a.den rational_one) ≤ 0))) (g := (!(decide ((aR a.den rational_one) ≤ 0)))) [] rfl rfl rfl rfl g_f (fun hg => Rd.step (fa uu40 rfl zz38 rfl rfl rfl (k' := 0)))
      · intro ξ hφ; exact iT (c := true) (b := (decide ((aR a.den rational_one) ≤ 0))) (g := (!(decide ((aR a.den rational_one) ≤ 0)))) [.blk b1 (cQ a) 40] rfl rfl rfl rfl g_f (fun hg => Rd.step (aX aa38 zz38 (ap rfl hg) rfl rfl (v := (vI a.num)) rfl))
      · intro ξ hφ; exact iT (c := true) (b := (decide ((aR a.den rational_one) ≤ 0))) (g := (!(decide ((aR a.den rational_one) ≤ 0)))) [] rfl rfl rfl rfl g_f (fun hg => Rd.step (fa uu40 rfl zz38 rfl rfl rfl (k' := 2)))
      · intro ξ hφ; exact iT (c := true) (b := (decide ((aR a.den rational_one) ≤ 0))) (g := (!(decide ((aR a.den rational_one) ≤ 0)))) [.blk b1 (cQ a) 40] rfl rfl rfl rfl g_f (fun hg => Rd.step (aX aa38 zz38 (ap rfl hg) rfl rfl (v := (vI a.den)) rfl))
      · intro ξ hφ; exact iT (c := true) (b := (decide ((aR a.den rational_one) ≤ 0))) (g := (!(decide ((aR a.den rational_one) ≤ 0)))) [] rfl rfl rfl rfl g_f (fun hg => dr (bL Tryz.call165 (br (ap rfl hg) (br (ap rfl hg) rfl))) (kk (gm a.num a.den 16 (by omega) za.1 za.2)))
      · intro ξ hφ; exact iT (c := true) (b := (decide ((aR a.den rational_one) ≤ 0))) (g := (!(decide ((aR a.den rational_one) ≤ 0)))) [] rfl rfl rfl rfl g_f (fun hg => dr (bL Tryz.call164 rfl) (kk (d6  40 (by omega) )))
      · intro ξ hφ; exact iT (c := true) (b := (decide ((aR a.den rational_one) ≤ 0))) (g := (!(decide ((aR a.den rational_one) ≤ 0)))) [] rfl rfl rfl rfl g_f (fun hg => Rd.step (lC pX (ap rfl hg) (ap rfl hg)))
      · intro ξ hφ; exact aC (np rfl (fun e => (ap rfl (nq e))))
      clear h ac wo; intro ξ ac wo hφ h
      replace h : St w0 31 [(30, (.bool ((decide ((aR a.den rational_one) ≤ 0)) || (!(decide ((aB a.num a.den) = rational_one))))))] [.blk b1 (cQ a) 40] ac wo := (h.pick [0] (by decide)).sub ⟨rfl, trivial⟩
      clear hφ ξ
      refine hK9 _ _ ?_
      refine cO h rfl (fun hc3 => ?_) (fun hc3 => ?_)
      · skip
        have hq3 := hc3; try simp at hq3
        refine gz h <| gr fun K10 hK10 => g0 (ae rfl) rfl <| gn hK10 <| gT ?_; clear h ac wo; intro ac wo h
        have hd : cN a = 5 := (Eq.trans (cF hc1) (Eq.trans (cF hc2) (cT hc3)))
        exact ret h rfl (.tmp rfl .nil) rfl (h.retP (by rw [hd] <;> rfl) trivial)
      · skip
        have hq3 := hc3; try simp at hq3
        refine gz h <| gS <| gx hK8 <| gr fun K11 hK11 => g0 (ae rfl) rfl <| gn hK11 <| gT ?_; clear h ac wo; intro ac wo h
        have hd : cN a = 0 := (Eq.trans (cF hc1) (Eq.trans (cF hc2) (cF hc3)))
        exact ret h rfl (.tmp rfl .nil) rfl (h.retP (by rw [hd] <;> rfl) trivial)
attribute [irreducible] cN
end Go.Sx
namespace Go.Sx
open Go Go.RowKit Go.Proofs
set_option maxRecDepth 100000
set_option maxHeartbeats 40000000
attribute [local irreducible] aD bN ah aL bt aN aK aF cY bj ar
def dh (x : U Qd) (y : U Qd) : Bool :=
 ((decide (x.iv = y.iv)) && (aY x.f y.f))
theorem i9 (x : U Qd) (y : U Qd) (b : Nat) (zx : fI 20 x) (zy : fI 20 y) (w0 : World) (hbp : PV w0 b [.iface 73 (.agg #[])]) : Calls Tryz.prog 112 #[(vUD x), (vUD y), (ptr b 0)] w0 (ec w0 (.bool (dh x y)) (True)) := by
 refine enter (N := 19) (args := [(vUD x), (vUD y), (ptr b 0)]) Tryz.func112 rfl rfl ?_; intro ac h
 refine dU fun K1 hK1 => ?_
 refine bx h (cUD x) rfl rfl rfl fun b1 => gb (cUD y) rfl rfl rfl fun b2 => g0 (ae rfl) rfl <| gn hK1 <| gr fun K2 hK2 => g0 (fa uu87 rfl zz55 rfl rfl rfl (k' := 0)) rfl <| g1 1 rfl (aX aa55 zz55 rfl rfl rfl (v := (vV x.iv)) rfl) rfl <| g0 (fa uu87 rfl zz55 rfl rfl rfl (k' := 0)) rfl <| g1 0 rfl (aX aa55 zz55 rfl rfl rfl (v := (vV y.iv)) rfl) rfl <| g0 (fM eqp55 rfl rfl) rfl <| g0 (af rfl) rfl <| ge1 rfl rfl (fun hg => (Rd.of_nil (r_ldP hbp Tryz.isAgg169 Tryz.sizeOf169 rfl rfl rfl (v := (.iface 73 (.agg #[]))) rfl)).step) rfl <| ge1 rfl rfl (fun hg => (Rd.of_nil (fa uu87 rfl zz69 rfl rfl rfl (k' := 20))).step) rfl <| ge1 rfl rfl (fun hg => (Rd.of_mem (i := 1) (aX aa69 zz69 (ap rfl hg) rfl rfl (v := (vD x.f)) rfl) rfl).step) rfl <| ge1 rfl rfl (fun hg => (Rd.of_nil (fa uu87 rfl zz69 rfl rfl rfl (k' := 20))).step) rfl <| ge1 rfl rfl (fun hg => (Rd.of_mem (i := 0) (aX aa69 zz69 (ap rfl hg) rfl rfl (v := (vD y.f)) rfl) rfl).step) rfl <| ge1 rfl rfl (fun hg => dr (jG gA Tryz.call305 (ap rfl hg) (br (ap rfl hg) (br (ap rfl hg) rfl))) (kk (eA x.f y.f zx.2 zy.2))) rfl <| g0 (ef rfl (fun e => (ap rfl e))) rfl <| g0 (ae rfl) rfl <| gn hK2 ?_; clear h ac; intro ac wo h
 replace h := h.sub (F' := [(5, (.bool ((decide (x.iv = y.iv)) && (aY x.f y.f))))]) ⟨rfl, trivial⟩
 refine fw ?_
 exact ret h rfl (.tmp rfl .nil) rfl (h.retP (by unfold dh; rfl) trivial)
attribute [irreducible] dh
def eqUQ_K1 (xs : List (U Qd)) (ys : List (U Qd)) (x17 : Nat) : Bool :=
 true
def jl (xs : List (U Qd)) (ys : List (U Qd)) (x17 : Nat) : Nx Nat Bool :=
 bif (decide (((x17 : Nat) : Int) < ((xs.length : Nat) : Int))) then
  bif (!(dh (gt xs x17) (gt ys x17))) then
   .ret false
  else
   .go (x17 + 1)
 else
  .out x17
def eqUQ (xs : List (U Qd)) (ys : List (U Qd)) : Bool :=
 bif ((((xs.length : Nat) : Int)) != (((ys.length : Nat) : Int))) then
  false
 else
  fin (b9 (fun s => jl xs ys s) ((xs.length - 0) + 1) 0) (fun s => eqUQ_K1 xs ys s) (fun r => r)
theorem eqUQ_ct (xs : List (U Qd)) (xsv : Value) (ys : List (U Qd)) (ysv : Value) (b : Nat) (zxs : All (fI 20) xs) (zys : All (fI 20) ys) (w0 : World) (hxsv : View w0 xsv xs) (hysv : View w0 ysv ys) (hbp : PV w0 b [.iface 73 (.agg #[])]) : Calls Tryz.prog 111 #[xsv, ysv, (.func (.func 112) #[] #[(ptr b 0)])] w0 (ec w0 (.bool (eqUQ xs ys)) (True)) := by
 refine enter (N := 32) (args := [xsv, ysv, (.func (.func 112) #[] #[(ptr b 0)])]) Tryz.func111 rfl rfl ?_; intro ac h
 have hlenxs := hxsv.len
 have hlenys := hysv.len
 refine dU fun K1 hK1 => ?_
 refine rd0 h (ae rfl) rfl <| gn hK1 <| gq fun K2 hK2 => gr fun K3 hK3 => g0 (af rfl) rfl <| g0 (du uu24 rfl hxsv.sl) rfl <| g0 (af rfl) rfl <| g0 (du uu24 rfl hysv.sl) rfl <| g0 (gw rfl rfl (m := ((xs.length : Nat) : Int)) (n := ((ys.length : Nat) : Int))) rfl <| gn hK3 ?_; clear h ac; intro ac wo h
 refine cO h rfl (fun hc1 => ?_) (fun hc1 => ?_)
 ·
  have hq1 := hc1; try simp at hq1
  refine gz h <| gr fun K4 hK4 => g0 (ae rfl) rfl <| gn hK4 <| gT ?_; clear h ac wo; intro ac wo h
  have hd : eqUQ xs ys = false := (cT hc1)
  exact ret h rfl (.tmp rfl .nil) rfl (h.retP (by rw [hd] <;> rfl) trivial)
 ·
  have hq1 := hc1; try simp at hq1
  refine gz h <| gS <| gx hK2 <| gq fun K5 hK5 => gr fun K6 hK6 => g0 (af rfl) rfl <| g0 (du uu24 rfl hxsv.sl) rfl <| g0 (af rfl) rfl <| gn hK6 <| gB ?_; clear h ac wo; intro ac wo h
  obtain ⟨X1, hX1⟩ : ∃ X, b9 (fun s => jl xs ys s) ((xs.length - 0) + 1) 0 = X := ⟨_, rfl⟩
  refine wp_loop_ghost (fun n_ a_ w_ => ∃ (x17 : Nat), ((xs.length - x17) < n_) ∧ (b9 (fun s => jl xs ys s) n_ x17 = X1) ∧ (x17 ≤ xs.length) ∧ St w0 32 [(1, ysv), (2, (.func (.func 112) #[] #[(ptr b 0)])), (15, xsv), (16, (.int .i64 ((xs.length : Nat) : Int))), (17, (.int .i64 ((x17 : Nat) : Int)))] [] a_ w_) ((xs.length - 0) + 1) ⟨0, (by omega), hX1, (by first | omega | assumption | grind), (h.sub ⟨rfl, rfl, rfl, rfl, rfl, trivial⟩)⟩ ?_
  clear h ac wo; rintro n1 ac wo ⟨x17, hm1, hL1, hx17, h⟩
  obtain ⟨m1, rfl⟩ : ∃ m, n1 = m + 1 := ⟨n1 - 1, by omega⟩
  refine gz h <| gr fun K7 hK7 => g0 (dY rfl rfl) rfl <| gn hK7 <| gq fun K8 hK8 => ?_; clear h ac wo; intro ac wo h
  refine cO h rfl (fun hc2 => ?_) (fun hc2 => ?_)
  ·
   have hd2 := of_decide_eq_true hc2
   refine gz h <| gS <| gx hK8 <| gq fun K9 hK9 => gB <| gr fun K10 hK10 => g0 (af rfl) rfl <| g0 (dK (i := x17) uu24 zz87 rfl rfl (hxsv.nn (i := x17) (by first | omega | assumption | grind)) (by first | omega | assumption | grind)) rfl <| g0 (eU (k := 0) aa87 zz87 hxsv (bU (by first | omega | assumption | grind)) rfl (Nat.add_zero _) rfl rfl (v := (vUD (gt xs x17))) rfl) rfl <| ga (cUD (⟨(⟨(⟨oQ, oQ, false⟩ : GR), (⟨oQ, oQ, false⟩ : GR), false, false⟩ : Iv), oD⟩ : U Qd)) vv87 rfl rfl fun b1 => g0 (ae rfl) rfl <| gs 0 (cUD (gt xs x17)) rfl zz87 rfl rfl rfl rfl rfl rfl rfl <| gn hK10 <| gr fun K11 hK11 => g0 (af rfl) rfl <| g0 (af rfl) rfl <| g0 (dK (i := x17) uu24 zz87 rfl rfl (hysv.nn (i := x17) (by first | omega | assumption | grind)) (by first | omega | assumption | grind)) rfl <| g0 (eU (k := 0) aa87 zz87 hysv (bU (by first | omega | assumption | grind)) rfl (Nat.add_zero _) rfl rfl (v := (vUD (gt ys x17))) rfl) rfl <| ga (cUD (⟨(⟨(⟨oQ, oQ, false⟩ : GR), (⟨oQ, oQ, false⟩ : GR), false, false⟩ : Iv), oD⟩ : U Qd)) vv87 rfl rfl fun b2 => gs 0 (cUD (gt ys x17)) rfl zz87 rfl rfl rfl rfl rfl rfl rfl <| gn hK11 <| gr fun K12 hK12 => g0 (af rfl) rfl <| g1 1 rfl (aX aa87 zz87 rfl rfl rfl (v := (vUD (gt xs x17))) rfl) rfl <| g1 0 rfl (aX aa87 zz87 rfl rfl rfl (v := (vUD (gt ys x17))) rfl) rfl <| gc (m5 (cap := [(ptr b 0)]) Tryz.call112 rfl rfl) (fun w_ hB_ hS_ => i9 (gt xs x17) (gt ys x17) b (All.gt zxs (bp _)) (All.gt zys (bp _)) w_ (hbp.below hB_)) rfl <| g0 (eZ rfl) rfl <| gn hK12 ?_; clear h ac wo; intro ac wo h
   replace h := h.sub (F' := [(1, ysv), (2, (.func (.func 112) #[] #[(ptr b 0)])), (15, xsv), (16, (.int .i64 ((xs.length : Nat) : Int))), (17, (.int .i64 ((x17 : Nat) : Int))), (30, (.bool (!(dh (gt xs x17) (gt ys x17)))))]) ⟨rfl, rfl, rfl, rfl, rfl, rfl, trivial⟩
   refine cO h rfl (fun hc3 => ?_) (fun hc3 => ?_)
   ·
    have hq3 := hc3; try simp at hq3
    refine gz h <| gr fun K13 hK13 => g0 (ae rfl) rfl <| gn hK13 <| gT ?_; clear h ac wo; intro ac wo h
    have hr1 := fy hL1 (show jl xs ys x17 = .ret false from (Eq.trans (cT hc2) (cT hc3)))
    have hd : eqUQ xs ys = false := (Eq.trans (cF hc1) (k9 (hX1.trans hr1)))
    exact ret h rfl (.tmp rfl .nil) rfl (h.retP (by rw [hd] <;> rfl) trivial)
   ·
    have hq3 := hc3; try simp at hq3
    refine gz h <| gS <| gN <| gx hK9 <| gR <| g0 (bM rfl rfl (r := ((x17 + 1 : Nat) : Int)) (by rw [IntKind.wrap_i64]; first | omega | grind)) rfl <| g0 (af rfl) rfl <| gx (fun _ _ => bR) ?_; clear h ac wo; intro ac wo h
    exact aM ⟨m1, (by omega), _, (by first | omega | assumption | grind), b0 hL1 (show jl xs ys x17 = .go _ from (Eq.trans (cT hc2) (cF hc3))), (by first | omega | assumption | grind), (h.pick [] (by decide)).sub ⟨rfl, rfl, rfl, rfl, rfl, trivial⟩⟩
  ·
   have hd2 := of_decide_eq_false hc2
   refine d8 ?_
   have hx1 := dX hL1 (show jl xs ys x17 = .out x17 from (cF hc2))
   refine gz h <| gx hK5 <| gr fun K14 hK14 => g0 (ae rfl) rfl <| gn hK14 <| gT ?_; clear h ac wo; intro ac wo h
   have hd : eqUQ xs ys = true := (Eq.trans (cF hc1) (eQ (hX1.trans hx1)))
   exact ret h rfl (.tmp rfl .nil) rfl (h.retP (by rw [hd] <;> rfl) trivial)
attribute [irreducible] eqUQ
def d4 (a : List (U Qd)) (b : List (U Qd)) : Bool :=
 (eqUQ a b)
theorem jD (a : List (U Qd)) (av : Value) (b : List (U Qd)) (bv : Value) (za : All (fI 20) a) (zb : All (fI 20) b) (w0 : World) (hav : View w0 av a) (hbv : View w0 bv b) : Calls Tryz.prog 44 #[(.iface 73 (.agg #[])), av, bv] w0 (ec w0 (.bool (d4 a b)) (True)) := by
 refine enter (N := 11) (args := [(.iface 73 (.agg #[])), av, bv]) Tryz.func44 rfl rfl ?_; intro ac h
 have hlena := hav.len
 have hlenb := hbv.len
 refine dU fun K1 hK1 => ?_
 refine bx h [.iface 73 (.agg #[])] rfl rfl rfl fun b1 => g0 (ae rfl) rfl <| gn hK1 <| gr fun K2 hK2 => g0 (af rfl) rfl <| g0 (af rfl) rfl <| g0 (jq rfl) rfl <| gc (bL Tryz.call111 rfl) (fun w_ hB_ hS_ => eqUQ_ct a av b bv b1 za zb w_ (hav.below hB_) (hbv.below hB_) (nV hS_ 0 rfl)) rfl <| g0 (ae rfl) rfl <| gn hK2 <| gT ?_; clear h ac; intro ac wo h
 exact ret h rfl (.tmp rfl .nil) rfl (h.retP (by unfold d4; rfl) trivial)
attribute [irreducible] d4
def j9 (q : Qd) (x12 : Nat) : Int :=
 0
def df (q : Qd) (x12 : Nat) : Nx Nat Int :=
 bif (decide (((x12 : Nat) : Int) < 3)) then
  bif ((cN (gt [q.c0, q.c1, q.c2] x12)) != 0) then
   .ret 5
  else
   .go (x12 + 1)
 else
  .out x12
def eK (q : Qd) : Int :=
 fin (b9 (fun s => df q s) ((3 - 0) + 1) 0) (fun s => j9 q s) (fun r => r)
theorem j8 (q : Qd) (zq : SzD 16 q) (w0 : World)  : Calls Tryz.prog 114 #[(vD q)] w0 (ec w0 (.int .i64 (eK q)) (True)) := by
 refine enter (N := 19) (args := [(vD q)]) Tryz.func114 rfl rfl ?_; intro ac h
 refine dU fun K1 hK1 => ?_
 refine bx h (cD q) rfl rfl rfl fun b1 => g0 (ae rfl) rfl <| gn hK1 <| gq fun K2 hK2 => gr fun K3 hK3 => g0 (fa uu69 rfl zz40 rfl rfl rfl (k' := 0)) rfl <| g1 0 rfl (aX aa40 zz40 rfl rfl rfl (v := (vQ q.c0)) rfl) rfl <| g0 (fa uu69 rfl zz40 rfl rfl rfl (k' := 4)) rfl <| g1 0 rfl (aX aa40 zz40 rfl rfl rfl (v := (vQ q.c1)) rfl) rfl <| g0 (fa uu69 rfl zz40 rfl rfl rfl (k' := 8)) rfl <| g1 0 rfl (aX aa40 zz40 rfl rfl rfl (v := (vQ q.c2)) rfl) rfl <| g0 (r_buildA (α := GQ) (xs := [.tmp 6, .tmp 8, .tmp 10]) (vs := [(vQ q.c0), (vQ q.c1), (vQ q.c2)]) [q.c0, q.c1, q.c2] Tryz.zeroValue237 uu237 zz40 rfl rfl rfl) rfl <| g0 (af rfl) rfl <| gn hK3 <| gB ?_; clear h ac; intro ac wo h
 obtain ⟨X1, hX1⟩ : ∃ X, b9 (fun s => df q s) ((3 - 0) + 1) 0 = X := ⟨_, rfl⟩
 refine wp_loop_ghost (fun n_ a_ w_ => ∃ (x12 : Nat), ((3 - x12) < n_) ∧ (b9 (fun s => df q s) n_ x12 = X1) ∧ (x12 ≤ 3) ∧ St w0 19 [(11, (.agg (flat [q.c0, q.c1, q.c2]).toArray)), (12, (.int .i64 ((x12 : Nat) : Int)))] [.blk b1 (cD q) 69] a_ w_) ((3 - 0) + 1) ⟨0, (by omega), hX1, (by first | omega | assumption | grind), (h.sub ⟨rfl, rfl, trivial⟩)⟩ ?_
 clear h ac wo; rintro n1 ac wo ⟨x12, hm1, hL1, hx12, h⟩
 obtain ⟨m1, rfl⟩ : ∃ m, n1 = m + 1 := ⟨n1 - 1, by omega⟩
 refine gz h <| gr fun K4 hK4 => g0 (dY rfl rfl) rfl <| gn hK4 <| gq fun K5 hK5 => ?_; clear h ac wo; intro ac wo h
 refine cO h rfl (fun hc1 => ?_) (fun hc1 => ?_)
 ·
  have hd1 := of_decide_eq_true hc1
  refine gz h <| gS <| gx hK5 <| gq fun K6 hK6 => gB <| gr fun K7 hK7 => g0 (r_indexA (i := x12) (us := [q.c0, q.c1, q.c2]) (u := (gt [q.c0, q.c1, q.c2] x12)) uu237 zz40 aa40 rfl rfl (by first | omega | assumption | grind) (bU (by simp; omega)) (v := (vQ (gt [q.c0, q.c1, q.c2] x12))) rfl) rfl <| ga (cQ oQ) vv40 rfl rfl fun b2 => gs 0 (cQ (gt [q.c0, q.c1, q.c2] x12)) rfl zz40 rfl rfl rfl rfl rfl rfl rfl <| gn hK7 <| gr fun K8 hK8 => g1 0 rfl (aX aa40 zz40 rfl rfl rfl (v := (vQ (gt [q.c0, q.c1, q.c2] x12))) rfl) rfl <| gc (bL cc104 rfl) (kk (fZ (gt [q.c0, q.c1, q.c2] x12) (All.gt (All.cons zq.1 (All.cons zq.2.1 (All.cons zq.2.2 All.nil))) (qi _)))) rfl <| g0 (gw rfl rfl) rfl <| gn hK8 ?_; clear h ac wo; intro ac wo h
  refine cO h rfl (fun hc2 => ?_) (fun hc2 => ?_)
  ·
   have hq2 := hc2; try simp at hq2
   refine gz h <| gr fun K9 hK9 => g0 (ae rfl) rfl <| gn hK9 <| gT ?_; clear h ac wo; intro ac wo h
   have hr1 := fy hL1 (show df q x12 = .ret 5 from (Eq.trans (cT hc1) (cT hc2)))
   have hd : eK q = 5 := (k9 (hX1.trans hr1))
   exact ret h rfl (.tmp rfl .nil) rfl (h.retP (by rw [hd] <;> rfl) trivial)
  ·
   have hq2 := hc2; try simp at hq2
   refine gz h <| gS <| gN <| gx hK6 <| gR <| g0 (bM rfl rfl (r := ((x12 + 1 : Nat) : Int)) (by rw [IntKind.wrap_i64]; first | omega | grind)) rfl <| g0 (af rfl) rfl <| gx (fun _ _ => bR) ?_; clear h ac wo; intro ac wo h
   exact aM ⟨m1, (by omega), _, (by first | omega | assumption | grind), b0 hL1 (show df q x12 = .go _ from (Eq.trans (cT hc1) (cF hc2))), (by first | omega | assumption | grind), (h.pick [1] (by decide)).sub ⟨rfl, rfl, trivial⟩⟩
 ·
  have hd1 := of_decide_eq_false hc1
  refine d8 ?_
  have hx1 := dX hL1 (show df q x12 = .out x12 from (cF hc1))
  refine gz h <| gx hK2 <| gr fun K10 hK10 => g0 (ae rfl) rfl <| gn hK10 <| gT ?_; clear h ac wo; intro ac wo h
  have hd : eK q = 0 := (eQ (hX1.trans hx1))
  exact ret h rfl (.tmp rfl .nil) rfl (h.retP (by rw [hd] <;> rfl) trivial)
attribute [irreducible] eK
def cG (f : Qd) : Int :=
 (eK f)
theorem je (f : Qd) (zf : SzD 30 f) (w0 : World)  : Calls Tryz.prog 304 #[(.agg #[]), (vD f)] w0 (ec w0 (.int .i64 (cG f)) (True)) := by
 refine enter (N := 7) (args := [(.agg #[]), (vD f)]) Tryz.func304 rfl rfl ?_; intro ac h
 refine dU fun K1 hK1 => ?_
 refine bx h [] rfl rfl rfl fun b1 => gb (cD f) rfl rfl rfl fun b2 => g0 (ae rfl) rfl <| gn hK1 <| gr fun K2 hK2 => g1 0 rfl (aX aa69 zz69 rfl rfl rfl (v := (vD f)) rfl) rfl <| gc (bL Tryz.call114 rfl) (kk (j8 f (cA zf (by omega)))) rfl <| g0 (ae rfl) rfl <| gn hK2 <| gT ?_; clear h ac; intro ac wo h
 exact ret h rfl (.tmp rfl .nil) rfl (h.retP (by unfold cG; rfl) trivial)
attribute [irreducible] cG
def di (i : Iv) : Bd :=
 (⟨i.lo, i.openLo⟩ : Bd)
theorem jg (i : Iv) (zi : SzV 30 i) (w0 : World)  : Calls Tryz.prog 136 #[(vV i)] w0 (ec w0 (vW (di i)) (SzW 30 (di i))) := by
 refine enter (N := 8) (args := [(vV i)]) Tryz.func136 rfl rfl ?_; intro ac h
 refine dU fun K1 hK1 => ?_
 refine bx h (cV i) rfl rfl rfl fun b1 => ga (cW (⟨(⟨oQ, oQ, false⟩ : GR), false⟩ : Bd)) vv203 rfl rfl fun b2 => gn hK1 <| gr fun K2 hK2 => g0 (fa uu55 rfl zz53 rfl rfl rfl (k' := 0)) rfl <| g1 1 rfl (aX aa53 zz53 rfl rfl rfl (v := (vR i.lo)) rfl) rfl <| g0 (fa uu55 rfl zz4 rfl rfl rfl (k' := 18)) rfl <| g1 1 rfl (aX aa4 zz4 rfl rfl rfl (v := (.bool i.openLo)) rfl) rfl <| g0 (bC bld203 rfl rfl (v := (vW (⟨i.lo, i.openLo⟩ : Bd))) rfl) rfl <| gs 0 (cW (⟨i.lo, i.openLo⟩ : Bd)) rfl zz203 rfl rfl rfl rfl rfl rfl rfl <| gn hK2 <| gT ?_; clear h ac; intro ac wo h
 exact ret h rfl (.cell (v := (vW (⟨i.lo, i.openLo⟩ : Bd))) rfl (i := 0) rfl Tryz.isAgg203 zz203 rfl rfl rfl .nil) rfl (h.retP (by unfold di; rfl) (by unfold di; exact zi.1))
attribute [irreducible] di
def dB (i : Iv) : Bd :=
 (⟨i.hi, (!i.openHi)⟩ : Bd)
theorem jI (i : Iv) (zi : SzV 30 i) (w0 : World)  : Calls Tryz.prog 135 #[(vV i)] w0 (ec w0 (vW (dB i)) (SzW 30 (dB i))) := by
 refine enter (N := 9) (args := [(vV i)]) Tryz.func135 rfl rfl ?_; intro ac h
 refine dU fun K1 hK1 => ?_
 refine bx h (cV i) rfl rfl rfl fun b1 => ga (cW (⟨(⟨oQ, oQ, false⟩ : GR), false⟩ : Bd)) vv203 rfl rfl fun b2 => gn hK1 <| gr fun K2 hK2 => g0 (fa uu55 rfl zz53 rfl rfl rfl (k' := 9)) rfl <| g1 1 rfl (aX aa53 zz53 rfl rfl rfl (v := (vR i.hi)) rfl) rfl <| g0 (fa uu55 rfl zz4 rfl rfl rfl (k' := 19)) rfl <| g1 1 rfl (aX aa4 zz4 rfl rfl rfl (v := (.bool i.openHi)) rfl) rfl <| g0 (eZ rfl) rfl <| g0 (bC bld203 rfl rfl (v := (vW (⟨i.hi, (!i.openHi)⟩ : Bd))) rfl) rfl <| gs 0 (cW (⟨i.hi, (!i.openHi)⟩ : Bd)) rfl zz203 rfl rfl rfl rfl rfl rfl rfl <| gn hK2 <| gT ?_; clear h ac; intro ac wo h
 exact ret h rfl (.cell (v := (vW (⟨i.hi, (!i.openHi)⟩ : Bd))) rfl (i := 0) rfl Tryz.isAgg203 zz203 rfl rfl rfl .nil) rfl (h.retP (by unfold dB; rfl) (by unfold dB; exact zi.2))
attribute [irreducible] dB
def cH (a : Bd) (b : Bd) : Int :=
 bif ((aD a.at_ b.at_) != 0) then
  (aD a.at_ b.at_)
 else
  bif (a.behind == b.behind) then
   0
  else
   bif b.behind then
    (-1)
   else
    1
theorem iH (a : Bd) (b : Bd) (za : SzW 30 a) (zb : SzW 30 b) (w0 : World)  : Calls Tryz.prog 134 #[(vW a), (vW b)] w0 (ec w0 (.int .i64 (cH a b)) ((-1 ≤ (cH a b) ∧ (cH a b) ≤ 1))) := by
 refine enter (N := 23) (args := [(vW a), (vW b)]) Tryz.func134 rfl rfl ?_; intro ac h
 have p2 := aA ((cC a.at_ b.at_ 10 (by omega) za zb) w0)
 refine dU fun K1 hK1 => ?_
 refine bx h (cW a) rfl rfl rfl fun b1 => gb (cW b) rfl rfl rfl fun b2 => g0 (ae rfl) rfl <| gn hK1 <| gq fun K2 hK2 => gr fun K3 hK3 => g0 (fa uu203 rfl zz53 rfl rfl rfl (k' := 0)) rfl <| g1 1 rfl (aX aa53 zz53 rfl rfl rfl (v := (vR a.at_)) rfl) rfl <| g0 (fa uu203 rfl zz53 rfl rfl rfl (k' := 0)) rfl <| g1 0 rfl (aX aa53 zz53 rfl rfl rfl (v := (vR b.at_)) rfl) rfl <| gc (bL Tryz.call115 rfl) (kk (cC a.at_ b.at_ 10 (by omega) za zb)) rfl <| g0 (ae rfl) rfl <| gn hK3 <| gr fun K4 hK4 => g0 (af rfl) rfl <| g0 (gw rfl rfl) rfl <| gn hK4 ?_; clear h ac; intro ac wo h
 refine cO h rfl (fun hc1 => ?_) (fun hc1 => ?_)
 ·
  have hq1 := hc1; try simp at hq1
  refine gz h <| gr fun K5 hK5 => g0 (af rfl) rfl <| g0 (ae rfl) rfl <| gn hK5 <| gT ?_; clear h ac wo; intro ac wo h
  have hd : cH a b = (aD a.at_ b.at_) := (cT hc1)
  exact ret h rfl (.tmp rfl .nil) rfl (h.retP (by rw [hd] <;> rfl) (by rw [hd]; exact (by first | omega | assumption | grind)))
 ·
  have hq1 := hc1; try simp at hq1
  refine gz h <| gS <| gx hK2 <| gq fun K6 hK6 => gB <| gr fun K7 hK7 => g0 (fa uu203 rfl zz4 rfl rfl rfl (k' := 9)) rfl <| g1 1 rfl (aX aa4 zz4 rfl rfl rfl (v := (.bool a.behind)) rfl) rfl <| g0 (fa uu203 rfl zz4 rfl rfl rfl (k' := 9)) rfl <| g1 0 rfl (aX aa4 zz4 rfl rfl rfl (v := (.bool b.behind)) rfl) rfl <| g0 (r_eqlB Tryz.underlying4 rfl rfl) rfl <| g0 (ae rfl) rfl <| gn hK7 ?_; clear h ac wo; intro ac wo h
  replace h := h.sub (F' := [(3, (ptr b2 0)), (14, (.bool (a.behind == b.behind)))]) ⟨rfl, rfl, trivial⟩
  refine cO h rfl (fun hc2 => ?_) (fun hc2 => ?_)
  ·
   have hd2 := eq_of_beq hc2
   refine gz h <| gr fun K8 hK8 => g0 (ae rfl) rfl <| gn hK8 <| gT ?_; clear h ac wo; intro ac wo h
   have hd : cH a b = 0 := (Eq.trans (cF hc1) (cT hc2))
   exact ret h rfl (.tmp rfl .nil) rfl (h.retP (by rw [hd] <;> rfl) (by rw [hd]; exact (by first | omega | assumption | grind)))
  ·
   have hd2 := ne_of_beq_false hc2
   refine gz h <| gr fun K9 hK9 => g0 (fa uu203 rfl zz4 rfl rfl rfl (k' := 9)) rfl <| g1 0 rfl (aX aa4 zz4 rfl rfl rfl (v := (.bool b.behind)) rfl) rfl <| g0 (ae rfl) rfl <| gn hK9 ?_; clear h ac wo; intro ac wo h
   refine cO h rfl (fun hc3 => ?_) (fun hc3 => ?_)
   ·
    have hq3 := hc3; try simp at hq3
    refine gz h <| gr fun K10 hK10 => g0 (ae rfl) rfl <| gn hK10 <| gT ?_; clear h ac wo; intro ac wo h
    have hd : cH a b = (-1) := (Eq.trans (cF hc1) (Eq.trans (cF hc2) (cT hc3)))
    exact ret h rfl (.tmp rfl .nil) rfl (h.retP (by rw [hd] <;> rfl) (by rw [hd]; exact (by first | omega | assumption | grind)))
   ·
    have hq3 := hc3; try simp at hq3
    refine gz h <| gS <| gN <| gx hK6 <| gr fun K11 hK11 => g0 (ae rfl) rfl <| gn hK11 <| gT ?_; clear h ac wo; intro ac wo h
    have hd : cH a b = 1 := (Eq.trans (cF hc1) (Eq.trans (cF hc2) (cF hc3)))
    exact ret h rfl (.tmp rfl .nil) rfl (h.retP (by rw [hd] <;> rfl) (by rw [hd]; exact (by first | omega | assumption | grind)))
attribute [irreducible] cH
end Go.Sx
namespace Go.Sx
open Go Go.RowKit Go.Proofs
set_option maxRecDepth 100000
set_option maxHeartbeats 40000000
attribute [local irreducible] aD bN ah aL bt aN aK aF cY bj ar
theorem nC (w : World) : (method (Tryz.prog.types.size + Made.depth) 73 (.agg #[]) "Check").run Tryz.prog w = .ok (304, .agg #[]) w := lG (P := Tryz.prog) (T := 73) Tryz.type73 (by kernel_rfl) Tryz.runUnderlying73 w
def bi (a : GI) : GI × Bool :=
 bif a.neg then
  ((⟨false, 0⟩ : GI), false)
 else
  bif (!(decide ((dm (bX a.mag) (bX a.mag)) = a.mag))) then
   ((⟨false, 0⟩ : GI), false)
  else
   ((aE false (bX a.mag)), true)
theorem hQ (a : GI) (ha : 0 < a.mag ∧ a.mag < 4) (za : SzI 30 a) (w0 : World)  : Calls Tryz.prog 224 #[(vI a)] w0 (ec w0 (.tuple #[(vI ((bi a).1)), (.bool ((bi a).2))]) (SzI 28 ((bi a).1))) := by
  refine enter (N := 20) (args := [(vI a)]) Tryz.func224 rfl rfl ?_; intro ac h
  refine dU fun K1 hK1 => ?_
  refine bx h (cI a) rfl rfl rfl fun b1 => ga (cI (⟨false, 0⟩ : GI)) vv38 rfl rfl fun b2 => g0 (ae rfl) rfl <| gn hK1 <| gq fun K2 hK2 => gr fun K3 hK3 => g0 (fa uu38 rfl zz4 rfl rfl rfl (k' := 0)) rfl <| g1 1 rfl (aX aa4 zz4 rfl rfl rfl (v := (.bool a.neg)) rfl) rfl <| gn hK3 ?_; clear h ac; intro ac wo h
  refine cO h rfl (fun hc1 => ?_) (fun hc1 => ?_)
  · skip
    have hq1 := hc1; try simp at hq1
    refine gz h <| gr fun K4 hK4 => g0 (bC nh rfl rfl (v := (vI (⟨false, 0⟩ : GI))) rfl) rfl <| gs 0 (cI (⟨false, 0⟩ : GI)) rfl zz38 rfl rfl rfl rfl rfl rfl rfl <| g0 (ae rfl) rfl <| gn hK4 <| gT ?_; clear h ac wo; intro ac wo h
    have hd : bi a = ((⟨false, 0⟩ : GI), false) := (cT hc1)
    exact ret h rfl (.cell (v := (vI (⟨false, 0⟩ : GI))) rfl (i := 0) rfl aa38 zz38 rfl rfl rfl (.tmp rfl .nil)) rfl (h.retP (by rw [hd] <;> rfl) (by rw [hd]; exact (cc 0 (by decide) (by omega))))
  · skip
    have hq1 := hc1; try simp at hq1
    have c1 := lL a.mag ha za
    have s1 := Calls.pr (c1 w0)
    refine gz h <| gS <| gx hK2 <| gr fun K5 hK5 => g0 (fa uu38 rfl zz9 rfl rfl rfl (k' := 1)) rfl <| g1 1 rfl (aX aa9 zz9 rfl rfl rfl (v := (.string (bs a.mag))) rfl) rfl <| gc (bL Tryz.call245 rfl) (kk c1) rfl <| g0 (ae rfl) rfl <| gn hK5 <| gq fun K6 hK6 => gq fun K7 hK7 => ?_; clear h ac wo; intro ac wo h
    have c2 := iz (bX a.mag) (bX a.mag) 28 (by omega) s1 s1
    have s2 := aA (c2 w0)
    refine cv mixed [⟨.det (.string (bs (bX a.mag))), []⟩, ⟨.det (.string (bs (bX a.mag))), []⟩, ⟨.det (.string (bs (dm (bX a.mag) (bX a.mag)))), []⟩, ⟨.det (ptr b1 1), []⟩, ⟨.det (.string (bs a.mag)), [1]⟩, ⟨.det (.bool (!(decide ((dm (bX a.mag) (bX a.mag)) = a.mag)))), []⟩] [⟨.blk b2 (cI (⟨false, 0⟩ : GI)) 38, []⟩, ⟨.blk b1 (cI a) 38, []⟩] h rfl (by kernel_rfl) ⟨?_, ?_, ?_, ?_, ?_, ?_, trivial⟩ ?_
    · intro ξ hφ; exact aC (af rfl)
    · intro ξ hφ; exact aC (af rfl)
    · intro ξ hφ; exact dW (dr (bL Tryz.call189 rfl) (kk c2))
    · intro ξ hφ; exact aC (fa uu38 rfl zz9 rfl rfl rfl (k' := 1))
    · intro ξ hφ; exact cr [.blk b1 (cI a) 38] rfl rfl (aX aa9 zz9 rfl rfl rfl (v := (.string (bs a.mag))) rfl)
    · intro ξ hφ; exact aC (lD rfl rfl (m := (dm (bX a.mag) (bX a.mag))) (n := a.mag))
    clear h ac wo; intro ξ ac wo hφ h
    replace h : St w0 20 [(2, (ptr b2 0)), (4, (.string (bs (bX a.mag)))), (16, (.bool (!(decide ((dm (bX a.mag) (bX a.mag)) = a.mag)))))] [.blk b2 (cI (⟨false, 0⟩ : GI)) 38, .blk b1 (cI a) 38] ac wo := (h.pick [0, 1] (by decide)).sub ⟨rfl, rfl, rfl, trivial⟩
    clear hφ ξ
    refine hK7 _ _ ?_
    refine cO h rfl (fun hc2 => ?_) (fun hc2 => ?_)
    · skip
      have hq2 := hc2; try simp at hq2
      refine gz h <| gr fun K8 hK8 => g0 (bC nh rfl rfl (v := (vI (⟨false, 0⟩ : GI))) rfl) rfl <| gs 0 (cI (⟨false, 0⟩ : GI)) rfl zz38 rfl rfl rfl rfl rfl rfl rfl <| g0 (ae rfl) rfl <| gn hK8 <| gT ?_; clear h ac wo; intro ac wo h
      have hd : bi a = ((⟨false, 0⟩ : GI), false) := (Eq.trans (cF hc1) (cT hc2))
      exact ret h rfl (.cell (v := (vI (⟨false, 0⟩ : GI))) rfl (i := 0) rfl aa38 zz38 rfl rfl rfl (.tmp rfl .nil)) rfl (h.retP (by rw [hd] <;> rfl) (by rw [hd]; exact (cc 0 (by decide) (by omega))))
    · skip
      have hq2 := hc2; try simp at hq2
      have c3 := bW false (bX a.mag) 29 (by omega) s1
      have s3 := aA (c3 w0)
      refine gz h <| gS <| gx hK6 <| gr fun K9 hK9 => g0 (af rfl) rfl <| gc (bL Tryz.call172 rfl) (kk c3) rfl <| gs 0 (cI (aE false (bX a.mag))) rfl zz38 rfl rfl rfl rfl rfl rfl rfl <| g0 (ae rfl) rfl <| gn hK9 <| gT ?_; clear h ac wo; intro ac wo h
      have hd : bi a = ((aE false (bX a.mag)), true) := (Eq.trans (cF hc1) (cF hc2))
      exact ret h rfl (.cell (v := (vI (aE false (bX a.mag)))) rfl (i := 0) rfl aa38 zz38 rfl rfl rfl (.tmp rfl .nil)) rfl (h.retP (by rw [hd] <;> rfl) (by rw [hd]; exact (ig s3 (by omega))))
attribute [irreducible] bi
def ew (a : GQ) : GQ × Bool :=
 bif ((!(bi a.num).2) || (!(bi (aG a)).2)) then
  ((⟨(⟨false, 0⟩ : GI), (⟨false, 0⟩ : GI)⟩ : GQ), false)
 else
  ((aZ ((bi a.num).1) ((bi (aG a)).1)), true)
theorem kX (a : GQ) (ha : a.num.mag = 2 ∧ a.den = ⟨false, 0⟩) (za : SzQ 30 a) (w0 : World)  : Calls Tryz.prog 196 #[(vQ a)] w0 (ec w0 (.tuple #[(vQ ((ew a).1)), (.bool ((ew a).2))]) (SzQ 20 ((ew a).1))) := by
 refine enter (N := 30) (args := [(vQ a)]) Tryz.func196 rfl rfl ?_; intro ac h
 have c1 := hQ a.num (by omega) za.1
 have s1 := Calls.pr (c1 w0)
 have c2 := cq a 30 (by omega) za
 have s2 := aA (c2 w0)
 have c3 := hQ (aG a) (ro ha.2) s2
 have s3 := Calls.pr (c3 w0)
 refine dU fun K1 hK1 => ?_
 refine bx h (cQ a) rfl rfl rfl fun b1 => ga (cQ oQ) vv40 rfl rfl fun b2 => g0 (ae rfl) rfl <| gn hK1 <| gr fun K2 hK2 => g0 (fa uu40 rfl zz38 rfl rfl rfl (k' := 0)) rfl <| g1 1 rfl (aX aa38 zz38 rfl rfl rfl (v := (vI a.num)) rfl) rfl <| gc (bL Tryz.call224 rfl) (kk c1) rfl <| g0 (af rfl) rfl <| g0 (bg rfl rfl) rfl <| g0 (bg rfl rfl) rfl <| ga (cI (⟨false, 0⟩ : GI)) vv38 rfl rfl fun b3 => gs 0 (cI ((bi a.num).1)) rfl zz38 rfl rfl rfl rfl rfl rfl rfl <| g0 (ae rfl) rfl <| gn hK2 <| gr fun K3 hK3 => g1 2 rfl (aX aa40 zz40 rfl rfl rfl (v := (vQ a)) rfl) rfl <| gc (bL Tryz.call159 rfl) (kk c2) rfl <| gc (bL Tryz.call224 rfl) (kk c3) rfl <| g0 (af rfl) rfl <| g0 (bg rfl rfl) rfl <| g0 (bg rfl rfl) rfl <| ga (cI (⟨false, 0⟩ : GI)) vv38 rfl rfl fun b4 => gs 0 (cI ((bi (aG a)).1)) rfl zz38 rfl rfl rfl rfl rfl rfl rfl <| g0 (ae rfl) rfl <| gn hK3 ?_; clear h ac; intro ac wo h
 replace h := h.sub (F' := [(2, (ptr b2 0)), (4, (ptr b3 0)), (5, (.bool ((bi a.num).2))), (6, (ptr b4 0)), (7, (.bool ((bi (aG a)).2)))]) ⟨rfl, rfl, rfl, rfl, rfl, trivial⟩
 refine gz h <| gq fun K4 hK4 => gr fun K5 hK5 => g0 (af rfl) rfl <| g0 (eZ rfl) rfl <| g0 (af rfl) rfl <| ge2 rfl rfl (fun hg => (Rd.of_nil (af rfl)).step) rfl <| ge2 rfl rfl (fun hg => (Rd.of_nil (eZ (ap rfl hg))).step) rfl <| g0 (np rfl (fun e => (ap rfl (nq e)))) rfl <| gn hK5 ?_; clear h ac wo; intro ac wo h
 refine cO h rfl (fun hc1 => ?_) (fun hc1 => ?_)
 ·
  have hq1 := hc1; try simp at hq1
  refine gz h <| gr fun K6 hK6 => g0 (bC lW rfl rfl (v := (vQ oQ)) rfl) rfl <| gs 2 (cQ oQ) rfl zz40 rfl rfl rfl rfl rfl rfl rfl <| g0 (ae rfl) rfl <| gn hK6 <| gT ?_; clear h ac wo; intro ac wo h
  have hd : ew a = (oQ, false) := (cT hc1)
  exact ret h rfl (.cell (v := (vQ oQ)) rfl (i := 2) rfl aa40 zz40 rfl rfl rfl (.tmp rfl .nil)) rfl (h.retP (by rw [hd] <;> rfl) (by rw [hd]; exact ⟨(cc 0 (by decide) (by omega)), (cc 0 (by decide) (by omega))⟩))
 ·
  have hq1 := hc1; try simp at hq1
  have c4 := dF ((bi a.num).1) ((bi (aG a)).1) 27 (by omega) s1 s3
  have s4 := aA (c4 w0)
  refine gz h <| gS <| gx hK4 <| gr fun K7 hK7 => g1 1 rfl (aX aa38 zz38 rfl rfl rfl (v := (vI ((bi a.num).1))) rfl) rfl <| g1 0 rfl (aX aa38 zz38 rfl rfl rfl (v := (vI ((bi (aG a)).1))) rfl) rfl <| gc (bL Tryz.call157 rfl) (kk c4) rfl <| gs 2 (cQ (aZ ((bi a.num).1) ((bi (aG a)).1))) rfl zz40 rfl rfl rfl rfl rfl rfl rfl <| g0 (ae rfl) rfl <| gn hK7 <| gT ?_; clear h ac wo; intro ac wo h
  have hd : ew a = ((aZ ((bi a.num).1) ((bi (aG a)).1)), true) := (cF hc1)
  exact ret h rfl (.cell (v := (vQ (aZ ((bi a.num).1) ((bi (aG a)).1)))) rfl (i := 2) rfl aa40 zz40 rfl rfl rfl (.tmp rfl .nil)) rfl (h.retP (by rw [hd] <;> rfl) (by rw [hd]; exact (cZ s4 (by omega))))
attribute [irreducible] ew
def dE (x : GR) : Int :=
 bif (((cN x.p) != 0) || ((cN x.r) != 0)) then
  5
 else
  bif ((aL x.r) == (-1)) then
   5
  else
   bif ((aL x.r) == 0) then
    bif x.neg then
     5
    else
     0
   else
    bif (ew x.r).2 then
     5
    else
     0
theorem j7 (x : GR) (hr : RtR x) (zx : SzR 30 x) (w0 : World)  : Calls Tryz.prog 171 #[(vR x)] w0 (ec w0 (.int .i64 (dE x)) (True)) := by
 refine enter (N := 31) (args := [(vR x)]) Tryz.func171 rfl rfl ?_; intro ac h
 refine dU fun K1 hK1 => ?_
 refine bx h (cR x) rfl rfl rfl fun b1 => g0 (ae rfl) rfl <| gn hK1 <| gq fun K2 hK2 => gr fun K3 hK3 => g0 (fa uu53 rfl zz40 rfl rfl rfl (k' := 0)) rfl <| g1 0 rfl (aX aa40 zz40 rfl rfl rfl (v := (vQ x.p)) rfl) rfl <| gc (bL cc104 rfl) (kk (fZ x.p (cZ zx.1 (by omega)))) rfl <| g0 (gw rfl rfl) rfl <| g0 (af rfl) rfl <| ge2 rfl rfl (fun hg => (Rd.of_nil (fa uu53 rfl zz40 rfl rfl rfl (k' := 4))).step) rfl <| ge2 rfl rfl (fun hg => (Rd.of_mem (i := 0) (aX aa40 zz40 (ap rfl hg) rfl rfl (v := (vQ x.r)) rfl) rfl).step) rfl <| ge2 rfl rfl (fun hg => dr (bL cc104 (br (ap rfl hg) rfl)) (kk (fZ x.r (cZ zx.2 (by omega))))) rfl <| ge2 rfl rfl (fun hg => (Rd.of_nil (gw (ap rfl hg) rfl)).step) rfl <| g0 (np rfl (fun e => (ap rfl (nq e)))) rfl <| gn hK3 ?_; clear h ac; intro ac wo h
 refine cO h rfl (fun hc1 => ?_) (fun hc1 => ?_)
 ·
  have hq1 := hc1; try simp at hq1
  refine gz h <| gr fun K4 hK4 => g0 (ae rfl) rfl <| gn hK4 <| gT ?_; clear h ac wo; intro ac wo h
  have hd : dE x = 5 := (cT hc1)
  exact ret h rfl (.tmp rfl .nil) rfl (h.retP (by rw [hd] <;> rfl) trivial)
 ·
  have hq1 := hc1; try simp at hq1
  have p2 := aA ((cM x.r) w0)
  refine gz h <| gS <| gx hK2 <| gq fun K5 hK5 => gr fun K6 hK6 => g0 (fa uu53 rfl zz40 rfl rfl rfl (k' := 4)) rfl <| g1 0 rfl (aX aa40 zz40 rfl rfl rfl (v := (vQ x.r)) rfl) rfl <| gc (bL Tryz.call58 rfl) (kk (cM x.r)) rfl <| gn hK6 <| gB <| gr fun K7 hK7 => g0 (fj rfl rfl) rfl <| g0 (ae rfl) rfl <| gn hK7 ?_; clear h ac wo; intro ac wo h
  replace h := h.sub (F' := [(1, (ptr b1 0)), (17, (.int .i64 (aL x.r))), (18, (.bool ((aL x.r) == (-1))))]) ⟨rfl, rfl, rfl, trivial⟩
  refine cO h rfl (fun hc2 => ?_) (fun hc2 => ?_)
  ·
   have hd2 := eq_of_beq hc2
   refine gz h <| gr fun K8 hK8 => g0 (ae rfl) rfl <| gn hK8 <| gT ?_; clear h ac wo; intro ac wo h
   have hd : dE x = 5 := (Eq.trans (cF hc1) (cT hc2))
   exact ret h rfl (.tmp rfl .nil) rfl (h.retP (by rw [hd] <;> rfl) trivial)
  ·
   have hd2 := ne_of_beq_false hc2
   refine gz h <| gr fun K9 hK9 => g0 (fj rfl rfl) rfl <| g0 (ae rfl) rfl <| gn hK9 ?_; clear h ac wo; intro ac wo h
   refine cO h rfl (fun hc3 => ?_) (fun hc3 => ?_)
   ·
    have hd3 := eq_of_beq hc3
    refine gz h <| gq fun K10 hK10 => gr fun K11 hK11 => g0 (fa uu53 rfl zz4 rfl rfl rfl (k' := 8)) rfl <| g1 0 rfl (aX aa4 zz4 rfl rfl rfl (v := (.bool x.neg)) rfl) rfl <| gn hK11 ?_; clear h ac wo; intro ac wo h
    refine cO h rfl (fun hc4 => ?_) (fun hc4 => ?_)
    ·
     have hq4 := hc4; try simp at hq4
     refine gz h <| gr fun K12 hK12 => g0 (ae rfl) rfl <| gn hK12 <| gT ?_; clear h ac wo; intro ac wo h
     have hd : dE x = 5 := (Eq.trans (cF hc1) (Eq.trans (cF hc2) (Eq.trans (cT hc3) (cT hc4))))
     exact ret h rfl (.tmp rfl .nil) rfl (h.retP (by rw [hd] <;> rfl) trivial)
    ·
     have hq4 := hc4; try simp at hq4
     refine gz h <| gS <| gx hK10 <| gr fun K13 hK13 => g0 (ae rfl) rfl <| gn hK13 <| gT ?_; clear h ac wo; intro ac wo h
     have hd : dE x = 0 := (Eq.trans (cF hc1) (Eq.trans (cF hc2) (Eq.trans (cT hc3) (cF hc4))))
     exact ret h rfl (.tmp rfl .nil) rfl (h.retP (by rw [hd] <;> rfl) trivial)
   ·
    have hd3 := ne_of_beq_false hc3
    have c3 := kX x.r (root_pre hr (by assumption)) zx.2
    have s3 := Calls.pr (c3 w0)
    refine gz h <| gS <| gN <| gx hK5 <| gq fun K14 hK14 => gr fun K15 hK15 => g0 (fa uu53 rfl zz40 rfl rfl rfl (k' := 4)) rfl <| g1 0 rfl (aX aa40 zz40 rfl rfl rfl (v := (vQ x.r)) rfl) rfl <| gc (bL Tryz.call196 rfl) (kk c3) rfl <| g0 (af rfl) rfl <| g0 (bg rfl rfl) rfl <| g0 (bg rfl rfl) rfl <| ga (cQ oQ) vv40 rfl rfl fun b2 => gs 0 (cQ ((ew x.r).1)) rfl zz40 rfl rfl rfl rfl rfl rfl rfl <| g0 (ae rfl) rfl <| gn hK15 <| gr fun K16 hK16 => g0 (af rfl) rfl <| gn hK16 ?_; clear h ac wo; intro ac wo h
    refine cO h rfl (fun hc5 => ?_) (fun hc5 => ?_)
    ·
     have hq5 := hc5; try simp at hq5
     refine gz h <| gr fun K17 hK17 => g0 (ae rfl) rfl <| gn hK17 <| gT ?_; clear h ac wo; intro ac wo h
     have hd : dE x = 5 := (Eq.trans (cF hc1) (Eq.trans (cF hc2) (Eq.trans (cF hc3) (cT hc5))))
     exact ret h rfl (.tmp rfl .nil) rfl (h.retP (by rw [hd] <;> rfl) trivial)
    ·
     have hq5 := hc5; try simp at hq5
     refine gz h <| gS <| gx hK14 <| gr fun K18 hK18 => g0 (ae rfl) rfl <| gn hK18 <| gT ?_; clear h ac wo; intro ac wo h
     have hd : dE x = 0 := (Eq.trans (cF hc1) (Eq.trans (cF hc2) (Eq.trans (cF hc3) (cF hc5))))
     exact ret h rfl (.tmp rfl .nil) rfl (h.retP (by rw [hd] <;> rfl) trivial)
attribute [irreducible] dE
def bF (i : Iv) : Int :=
 bif (((dE i.lo) != 0) || ((dE i.hi) != 0)) then
  5
 else
  bif (decide ((cH (di i) (dB i)) ≥ 0)) then
   10
  else
   0
theorem iR (i : Iv) (hv : RtV i) (zi : SzV 30 i) (w0 : World)  : Calls Tryz.prog 110 #[(vV i)] w0 (ec w0 (.int .i64 (bF i)) (True)) := by
  refine enter (N := 19) (args := [(vV i)]) Tryz.func110 rfl rfl ?_; intro ac h
  refine dU fun K1 hK1 => ?_
  refine bx h (cV i) rfl rfl rfl fun b1 => g0 (ae rfl) rfl <| gn hK1 <| gq fun K2 hK2 => gr fun K3 hK3 => g0 (fa uu55 rfl zz53 rfl rfl rfl (k' := 0)) rfl <| g1 0 rfl (aX aa53 zz53 rfl rfl rfl (v := (vR i.lo)) rfl) rfl <| gc (bL Tryz.call171 rfl) (kk (j7 i.lo hv.1 zi.1)) rfl <| g0 (gw rfl rfl) rfl <| g0 (af rfl) rfl <| ge2 rfl rfl (fun hg => (Rd.of_nil (fa uu55 rfl zz53 rfl rfl rfl (k' := 9))).step) rfl <| ge2 rfl rfl (fun hg => (Rd.of_mem (i := 0) (aX aa53 zz53 (ap rfl hg) rfl rfl (v := (vR i.hi)) rfl) rfl).step) rfl <| ge2 rfl rfl (fun hg => dr (bL Tryz.call171 (br (ap rfl hg) rfl)) (kk (j7 i.hi hv.2 zi.2))) rfl <| ge2 rfl rfl (fun hg => (Rd.of_nil (gw (ap rfl hg) rfl)).step) rfl <| g0 (np rfl (fun e => (ap rfl (nq e)))) rfl <| gn hK3 ?_; clear h ac; intro ac wo h
  refine cO h rfl (fun hc1 => ?_) (fun hc1 => ?_)
  · skip
    have hq1 := hc1; try simp at hq1
    refine gz h <| gr fun K4 hK4 => g0 (ae rfl) rfl <| gn hK4 <| gT ?_; clear h ac wo; intro ac wo h
    have hd : bF i = 5 := (cT hc1)
    exact ret h rfl (.tmp rfl .nil) rfl (h.retP (by rw [hd] <;> rfl) trivial)
  · skip
    have hq1 := hc1; try simp at hq1
    refine dZ ?_
    refine hK2 _ _ ?_
    refine dy fun K5 hK5 => ?_
    refine dy fun K6 hK6 => ?_
    have s1 := Calls.pr ((fun w_ hB_ hS_ => jg i zi w_ ) _ h.bel h.sep)
    have s2 := Calls.pr ((fun w_ hB_ hS_ => jI i zi w_ ) _ h.bel h.sep)
    have s3 := Calls.pr ((fun w_ hB_ hS_ => iH (di i) (dB i) s1 s2 w_ ) _ h.bel h.sep)
    have p4 := s3
    refine cv mixed [⟨.det (vV i), [0]⟩, ⟨.det (vW (di i)), []⟩, ⟨.det (vV i), [0]⟩, ⟨.det (vW (dB i)), []⟩, ⟨.det (.int .i64 (cH (di i) (dB i))), []⟩, ⟨.det (.bool (decide ((cH (di i) (dB i)) ≥ 0))), []⟩] [⟨.blk b1 (cV i) 55, []⟩] h rfl (by kernel_rfl) ⟨?_, ?_, ?_, ?_, ?_, ?_, trivial⟩ ?_
    · intro ξ hφ; exact cr [.blk b1 (cV i) 55] rfl rfl (aX aa55 zz55 rfl rfl rfl (v := (vV i)) rfl)
    · intro ξ hφ; exact dW (dr (vs := [(vV i)]) (bL Tryz.call136 rfl) (fun w_ hB_ hS_ => jg i zi w_ ))
    · intro ξ hφ; exact cr [.blk b1 (cV i) 55] rfl rfl (aX aa55 zz55 rfl rfl rfl (v := (vV i)) rfl)
    · intro ξ hφ; exact dW (dr (bL Tryz.call135 rfl) (kk (jI i zi)))
    · intro ξ hφ; exact dW (dr (bL Tryz.call134 rfl) (kk (iH (di i) (dB i) s1 s2)))
    · intro ξ hφ; exact aC (mD rfl rfl)
    clear h ac wo; intro ξ ac wo hφ h
    replace h : St w0 19 [(18, (.bool (decide ((cH (di i) (dB i)) ≥ 0))))] [.blk b1 (cV i) 55] ac wo := (h.pick [0] (by decide)).sub ⟨rfl, trivial⟩
    clear hφ ξ
    refine hK6 _ _ ?_
    refine cO h rfl (fun hc2 => ?_) (fun hc2 => ?_)
    · skip
      have hd2 := of_decide_eq_true hc2
      refine gz h <| gr fun K7 hK7 => g0 (ae rfl) rfl <| gn hK7 <| gT ?_; clear h ac wo; intro ac wo h
      have hd : bF i = 10 := (Eq.trans (cF hc1) (cT hc2))
      exact ret h rfl (.tmp rfl .nil) rfl (h.retP (by rw [hd] <;> rfl) trivial)
    · skip
      have hd2 := of_decide_eq_false hc2
      refine gz h <| gS <| gx hK5 <| gr fun K8 hK8 => g0 (ae rfl) rfl <| gn hK8 <| gT ?_; clear h ac wo; intro ac wo h
      have hd : bF i = 0 := (Eq.trans (cF hc1) (cF hc2))
      exact ret h rfl (.tmp rfl .nil) rfl (h.retP (by rw [hd] <;> rfl) trivial)
attribute [irreducible] bF
def gJ (l : List (U Qd)) (x16 : Nat) : Int :=
 bif ((((aV l).2) != 0) || (!(d4 l ((aV l).1)))) then
  5
 else
  0
def ch (l : List (U Qd)) (x16 : Nat) : Nx Nat Int :=
 bif (decide (((x16 : Nat) : Int) < ((l.length : Nat) : Int))) then
  bif ((bF ((gt l x16).iv)) != 0) then
   .ret (bF ((gt l x16).iv))
  else
   bif ((cG ((gt l x16).f)) != 0) then
    .ret (cG ((gt l x16).f))
   else
    bif ((decide (((x16 : Nat) : Int) > 0)) && (!(bj ((gt l (x16 - 1)).iv) ((gt l x16).iv)))) then
     .ret 7
    else
     .go (x16 + 1)
 else
  .out x16
def ck (l : List (U Qd)) : Int :=
 bif (decide (((l.length : Nat) : Int) > 256)) then
  3
 else
  fin (b9 (fun s => ch l s) ((l.length - 0) + 1) 0) (fun s => gJ l s) (fun r => r)
theorem jE (l : List (U Qd)) (lv : Value) (hl : l.length < 20) (hv : ∀ j, RtV (gt l j).iv) (zl : All (fI 30) l) (w0 : World) (hlv : View w0 lv l) : Calls Tryz.prog 43 #[(.iface 73 (.agg #[])), lv] w0 (ec w0 (.int .i64 (ck l)) (True)) := by
 refine enter (N := 64) (args := [(.iface 73 (.agg #[])), lv]) Tryz.func43 rfl rfl ?_; intro ac h
 have hlenl := hlv.len
 refine dU fun K1 hK1 => ?_
 refine rd0 h (ae rfl) rfl <| gn hK1 <| gq fun K2 hK2 => gr fun K3 hK3 => g0 (af rfl) rfl <| g0 (du uu24 rfl hlv.sl) rfl <| g0 (kB rfl rfl) rfl <| gn hK3 ?_; clear h ac; intro ac wo h
 refine cO h rfl (fun hc1 => ?_) (fun hc1 => ?_)
 ·
  have hd1 := of_decide_eq_true hc1
  refine gz h <| gr fun K4 hK4 => g0 (ae rfl) rfl <| gn hK4 <| gT ?_; clear h ac wo; intro ac wo h
  have hd : ck l = 3 := (cT hc1)
  exact ret h rfl (.tmp rfl .nil) rfl (h.retP (by rw [hd] <;> rfl) trivial)
 ·
  have hd1 := of_decide_eq_false hc1
  refine gz h <| gS <| gx hK2 <| gq fun K5 hK5 => gr fun K6 hK6 => g0 (af rfl) rfl <| g0 (du uu24 rfl hlv.sl) rfl <| g0 (af rfl) rfl <| gn hK6 <| gB ?_; clear h ac wo; intro ac wo h
  obtain ⟨X1, hX1⟩ : ∃ X, b9 (fun s => ch l s) ((l.length - 0) + 1) 0 = X := ⟨_, rfl⟩
  refine wp_loop_ghost (fun n_ a_ w_ => ∃ (x16 : Nat), ((l.length - x16) < n_) ∧ (b9 (fun s => ch l s) n_ x16 = X1) ∧ (x16 ≤ l.length) ∧ St w0 64 [(0, (.iface 73 (.agg #[]))), (1, lv), (14, lv), (15, (.int .i64 ((l.length : Nat) : Int))), (16, (.int .i64 ((x16 : Nat) : Int)))] [] a_ w_) ((l.length - 0) + 1) ⟨0, (by omega), hX1, (by first | omega | assumption | grind), (h.sub ⟨rfl, rfl, rfl, rfl, rfl, trivial⟩)⟩ ?_
  clear h ac wo; rintro n1 ac wo ⟨x16, hm1, hL1, hx16, h⟩
  obtain ⟨m1, rfl⟩ : ∃ m, n1 = m + 1 := ⟨n1 - 1, by omega⟩
  refine gz h <| gr fun K7 hK7 => g0 (dY rfl rfl) rfl <| gn hK7 <| gq fun K8 hK8 => ?_; clear h ac wo; intro ac wo h
  refine cO h rfl (fun hc2 => ?_) (fun hc2 => ?_)
  ·
   have hd2 := of_decide_eq_true hc2
   refine gz h <| gS <| gx hK8 <| gq fun K9 hK9 => gB <| gr fun K10 hK10 => g0 (af rfl) rfl <| g0 (dK (i := x16) uu24 zz87 rfl rfl (hlv.nn (i := x16) (by first | omega | assumption | grind)) (by first | omega | assumption | grind)) rfl <| g0 (eU (k := 0) aa87 zz87 hlv (bU (by first | omega | assumption | grind)) rfl (Nat.add_zero _) rfl rfl (v := (vUD (gt l x16))) rfl) rfl <| ga (cUD (⟨(⟨(⟨oQ, oQ, false⟩ : GR), (⟨oQ, oQ, false⟩ : GR), false, false⟩ : Iv), oD⟩ : U Qd)) vv87 rfl rfl fun b1 => g0 (ae rfl) rfl <| gs 0 (cUD (gt l x16)) rfl zz87 rfl rfl rfl rfl rfl rfl rfl <| gn hK10 <| gq fun K11 hK11 => gr fun K12 hK12 => g0 (fa uu87 rfl zz55 rfl rfl rfl (k' := 0)) rfl <| g1 0 rfl (aX aa55 zz55 rfl rfl rfl (v := (vV ((gt l x16).iv))) rfl) rfl <| gc (bL Tryz.call110 rfl) (kk (iR ((gt l x16).iv) (hv _) (All.gt zl (bp _)).1)) rfl <| g0 (ae rfl) rfl <| gn hK12 <| gr fun K13 hK13 => g0 (af rfl) rfl <| g0 (gw rfl rfl) rfl <| gn hK13 ?_; clear h ac wo; intro ac wo h
   refine cO h rfl (fun hc3 => ?_) (fun hc3 => ?_)
   ·
    have hq3 := hc3; try simp at hq3
    refine gz h <| gr fun K14 hK14 => g0 (af rfl) rfl <| g0 (ae rfl) rfl <| gn hK14 ?_; clear h ac wo; intro ac wo h
    replace h := h.sub (F' := [(4, (.int .i64 (bF ((gt l x16).iv))))]) ⟨rfl, trivial⟩
    refine fw ?_
    have hr1 := fy hL1 (show ch l x16 = .ret (bF ((gt l x16).iv)) from (Eq.trans (cT hc2) (cT hc3)))
    have hd : ck l = (bF ((gt l x16).iv)) := (Eq.trans (cF hc1) (k9 (hX1.trans hr1)))
    exact ret h rfl (.tmp rfl .nil) rfl (h.retP (by rw [hd] <;> rfl) trivial)
   ·
    have hq3 := hc3; try simp at hq3
    refine gz h <| gS <| gx hK11 <| gq fun K15 hK15 => gr fun K16 hK16 => g0 (af rfl) rfl <| g0 (fa uu87 rfl zz69 rfl rfl rfl (k' := 20)) rfl <| g1 0 rfl (aX aa69 zz69 rfl rfl rfl (v := (vD ((gt l x16).f))) rfl) rfl <| gc (jG nC Tryz.call304 rfl rfl) (kk (je ((gt l x16).f) (All.gt zl (bp _)).2)) rfl <| g0 (ae rfl) rfl <| gn hK16 <| gr fun K17 hK17 => g0 (af rfl) rfl <| g0 (gw rfl rfl) rfl <| gn hK17 ?_; clear h ac wo; intro ac wo h
    replace h := h.sub (F' := [(0, (.iface 73 (.agg #[]))), (1, lv), (14, lv), (15, (.int .i64 ((l.length : Nat) : Int))), (16, (.int .i64 ((x16 : Nat) : Int))), (6, (ptr b1 0)), (5, (.int .i64 ((x16 : Nat) : Int))), (8, (.int .i64 (cG ((gt l x16).f)))), (32, (.bool ((cG ((gt l x16).f)) != 0)))]) ⟨rfl, rfl, rfl, rfl, rfl, rfl, rfl, rfl, rfl, trivial⟩
    refine cO h rfl (fun hc4 => ?_) (fun hc4 => ?_)
    ·
     have hq4 := hc4; try simp at hq4
     refine gz h <| gr fun K18 hK18 => g0 (af rfl) rfl <| g0 (ae rfl) rfl <| gn hK18 <| gT ?_; clear h ac wo; intro ac wo h
     have hr1 := fy hL1 (show ch l x16 = .ret (cG ((gt l x16).f)) from (Eq.trans (cT hc2) (Eq.trans (cF hc3) (cT hc4))))
     have hd : ck l = (cG ((gt l x16).f)) := (Eq.trans (cF hc1) (k9 (hX1.trans hr1)))
     exact ret h rfl (.tmp rfl .nil) rfl (h.retP (by rw [hd] <;> rfl) trivial)
    ·
     have hq4 := hc4; try simp at hq4
     refine dZ ?_
     refine hK15 _ _ ?_
     refine dy fun K19 hK19 => ?_
     refine cv mixed [dv _, dv _, dv _, dv _, dv _, dv _, dv _, dv _, dv _, dv _, dw _ [0], dv _, dv _, dv _] [⟨_, []⟩] h rfl (by kernel_rfl) ⟨fun _ _ => om rfl, fun _ _ => aC (kB rfl rfl), fun _ _ => om rfl, fun _ _ => oh rfl rfl rfl rfl (fun hg => af rfl), fun _ _ => oh rfl rfl rfl rfl (fun hg => af rfl), fun _ _ => oh rfl rfl rfl rfl (fun hg => dV (ap rfl hg) rfl (r := (((x16 - 1) : Nat) : Int)) (by rw [IntKind.wrap_i64]; first | omega | (simp at hg; omega) | grind)), fun _ _ => oh rfl rfl rfl rfl (fun hg => dK (i := (x16 - 1)) uu24 zz87 (ap rfl hg) (ap rfl hg) (hlv.nn (i := (x16 - 1)) (by first | omega | (simp at hg; omega) | grind)) (by first | omega | (simp at hg; omega) | grind)), fun _ _ => oh rfl rfl rfl rfl (fun hg => eN uu87 rfl zz55 (by decide) (hlv.nn (i := 0) (by first | omega | (simp at hg; omega) | grind)) (ap rfl hg) rfl (k' := (x16 - 1) * 32 + 0)), fun _ _ => oh rfl rfl rfl rfl (fun hg => eU (k := 0) aa55 zz55 hlv (bU (by first | omega | (simp at hg; omega) | grind)) (ap rfl hg) rfl rfl rfl (v := (vV ((gt l (x16 - 1)).iv))) rfl), fun _ _ => oh rfl rfl rfl rfl (fun hg => mE uu87 rfl zz55 (by decide) rfl rfl (k' := 0)), fun _ _ => oh rfl rfl rfl rfl (fun hg => aX aa55 zz55 (ap rfl hg) rfl rfl (v := (vV ((gt l x16).iv))) rfl), fun _ _ => og1 rfl rfl rfl rfl (fun hg => dr (bL Tryz.call81 (br (ap rfl hg) (br (ap rfl hg) rfl))) (kk (jd ((gt l (x16 - 1)).iv) ((gt l x16).iv) 10 (by omega) (All.gt zl (bp _)).1 (All.gt zl (bp _)).1))), fun _ _ => oh rfl rfl rfl rfl (fun hg => eZ (ap rfl hg)), fun _ _ => aC (ef rfl (fun e => (ap rfl e))), trivial⟩ ?_
     clear h ac wo; intro ξ ac wo hφ h
     replace h : St w0 64 [(0, (.iface 73 (.agg #[]))), (1, lv), (14, lv), (15, (.int .i64 ((l.length : Nat) : Int))), (16, (.int .i64 ((x16 : Nat) : Int))), (47, (.bool ((decide (((x16 : Nat) : Int) > 0)) && (!(bj ((gt l (x16 - 1)).iv) ((gt l x16).iv))))))] [.blk b1 (cUD (gt l x16)) 87] ac wo := (h.pick [0] (by decide)).sub ⟨rfl, rfl, rfl, rfl, rfl, rfl, trivial⟩
     clear hφ ξ
     refine hK19 _ _ ?_
     refine cO h rfl (fun hc5 => ?_) (fun hc5 => ?_)
     ·
      have hq5 := hc5; try simp at hq5
      refine gz h <| gr fun K20 hK20 => g0 (ae rfl) rfl <| gn hK20 <| gT ?_; clear h ac wo; intro ac wo h
      have hr1 := fy hL1 (show ch l x16 = .ret 7 from (Eq.trans (cT hc2) (Eq.trans (cF hc3) (Eq.trans (cF hc4) (cT hc5)))))
      have hd : ck l = 7 := (Eq.trans (cF hc1) (k9 (hX1.trans hr1)))
      exact ret h rfl (.tmp rfl .nil) rfl (h.retP (by rw [hd] <;> rfl) trivial)
     ·
      have hq5 := hc5; try simp at hq5
      refine gz h <| gS <| gN <| gx hK9 <| gR <| g0 (bM rfl rfl (r := ((x16 + 1 : Nat) : Int)) (by rw [IntKind.wrap_i64]; first | omega | grind)) rfl <| g0 (af rfl) rfl <| gx (fun _ _ => bR) ?_; clear h ac wo; intro ac wo h
      exact aM ⟨m1, (by omega), _, (by first | omega | assumption | grind), b0 hL1 (show ch l x16 = .go _ from (Eq.trans (cT hc2) (Eq.trans (cF hc3) (Eq.trans (cF hc4) (cF hc5))))), (by first | omega | assumption | grind), (h.pick [] (by decide)).sub ⟨rfl, rfl, rfl, rfl, rfl, trivial⟩⟩
  ·
   have hd2 := of_decide_eq_false hc2
   refine d8 ?_
   have hx1 := dX hL1 (show ch l x16 = .out x16 from (cF hc2))
   refine gz h <| gx hK5 <| gq fun K21 hK21 => gr fun K22 hK22 => g0 (af rfl) rfl <| g0 (af rfl) rfl ?_; clear h ac wo; intro ac wo h
   have s1 := RetT.pr ((fun w_ hB_ hS_ => dG l lv (by first | omega | assumption | grind) zl w_ (hlv.below hB_)) _ h.bel h.sep)
   have p2 := s1.2
   refine c_tup (xs := (aV l).1) h (bL Tryz.call39 rfl) (fun w_ hB_ hS_ => dG l lv (by first | omega | assumption | grind) zl w_ (hlv.below hB_)) rfl ?_; clear h ac wo; intro sv3 ac wo _ h
   refine rd0 h (af rfl) rfl <| g0 (bg rfl rfl) rfl <| g0 (bg rfl rfl) rfl <| g0 (ae rfl) rfl <| g0 (ae rfl) rfl <| gn hK22 <| gr fun K23 hK23 => g0 (af rfl) rfl <| g0 (gw rfl rfl) rfl <| g0 (af rfl) rfl <| ge2 rfl rfl (fun hg => (Rd.of_nil (af rfl)).step) rfl <| ge2 rfl rfl (fun hg => (Rd.of_nil (af rfl)).step) rfl <| ge2 rfl rfl (fun hg => (Rd.of_nil (af rfl)).step) rfl <| ge2 rfl rfl (fun hg => dr (bL Tryz.call44 (br (ap rfl hg) (br (ap rfl hg) (br (ap rfl hg) rfl)))) (fun w_ hB_ hS_ => jD l lv ((aV l).1) sv3 (All.mono zl (fun _ h_ => nl h_ (by omega))) s1.1 w_ (hlv.below hB_) (row_view hS_ 0 rfl))) rfl <| ge2 rfl rfl (fun hg => (Rd.of_nil (eZ (ap rfl hg))).step) rfl <| g0 (np rfl (fun e => (ap rfl (nq e)))) rfl <| gn hK23 ?_; clear h ac wo; intro ac wo h
   replace h := h.sub (F' := [(63, (.bool ((((aV l).2) != 0) || (!(d4 l ((aV l).1))))))]) ⟨rfl, trivial⟩
   refine cO h rfl (fun hc6 => ?_) (fun hc6 => ?_)
   ·
    have hq6 := hc6; try simp at hq6
    refine gz h <| gr fun K24 hK24 => g0 (ae rfl) rfl <| gn hK24 <| gT ?_; clear h ac wo; intro ac wo h
    have hd : ck l = 5 := (Eq.trans (cF hc1) (Eq.trans (eQ (hX1.trans hx1)) (cT hc6)))
    exact ret h rfl (.tmp rfl .nil) rfl (h.retP (by rw [hd] <;> rfl) trivial)
   ·
    have hq6 := hc6; try simp at hq6
    refine gz h <| gS <| gx hK21 <| gr fun K25 hK25 => g0 (ae rfl) rfl <| gn hK25 <| gT ?_; clear h ac wo; intro ac wo h
    have hd : ck l = 0 := (Eq.trans (cF hc1) (Eq.trans (eQ (hX1.trans hx1)) (cF hc6)))
    exact ret h rfl (.tmp rfl .nil) rfl (h.retP (by rw [hd] <;> rfl) trivial)
attribute [irreducible] ck
end Go.Sx
