/- A part of the proof that the law PiecesChecks answers true at every input and leaves its arguments as they were. -/
import Derived.Test.YtnkaneggnjallaaGreatDoorProg
import Derived.Test.YtnkaneggnjallaaGreatDoorQ2
import Derived.Test.YtnkaneggnjallaaGreatDoorA7
import Derived.Test.YtnkaneggnjallaaGreatDoorX
import Derived.Test.YtnkaneggnjallaaGreatDoorQ3
set_option linter.unusedVariables false
set_option linter.unusedSimpArgs false
open Go.Proofs.Tryz renaming runUnderlying38 → uu38, sizeOf9 → zz9, isAgg9 → aa9, sizeOf4 → zz4, isAgg4 → aa4, runUnderlying40 → uu40, sizeOf38 → zz38, isAgg38 → aa38, runUnderlying87 → uu87, sizeOf55 → zz55, isAgg55 → aa55, sizeOf69 → zz69, isAgg69 → aa69, runUnderlying24 → uu24, sizeOf87 → zz87, isAgg87 → aa87, zeroValue87 → vv87, runUnderlying69 → uu69, sizeOf40 → zz40, isAgg40 → aa40, runUnderlying237 → uu237, zeroValue40 → vv40, call104 → cc104, zeroValue203 → vv203, runUnderlying55 → uu55, sizeOf53 → zz53, isAgg53 → aa53, sizeOf203 → zz203, runUnderlying203 → uu203, runUnderlying73 → uu73, zeroValue38 → vv38, runUnderlying53 → uu53, zeroValue55 → vv55
namespace Go.Sx
open Go Go.RowKit Go.Proofs
set_option maxRecDepth 100000
set_option maxHeartbeats 40000000
attribute [local irreducible] aA bT ak aH bJ aP aF aE cO bm aw
def em (a : GI) : Int :=
 bif (((decide (a.mag = 0)) && a.neg) || ((!(decide (a.mag = 0))) && (((((px a.mag) : Nat) : Int)) == (((0 : Nat) : Int))))) then
  5
 else
  0
theorem iE (a : GI) (za : SzI 16 a) (w0 : World)  : Calls Tryz.prog 162 #[(vI a)] w0 (dZ w0 (.int .i64 (em a)) (True)) := by
 refine enter (N := 21) (args := [(vI a)]) Tryz.func162 rfl rfl ?_; intro ac h
 refine dL fun K1 hK1 => ?_
 refine bx h (cI a) rfl rfl rfl fun b1 => g0 (ag rfl) rfl <| gn hK1 <| gq fun K2 hK2 => gr fun K3 hK3 => g0 (fa uu38 rfl zz9 rfl rfl rfl (k' := 1)) rfl <| g1 0 rfl (aX aa9 zz9 rfl rfl rfl (v := (.string (bs a.mag))) rfl) rfl <| g0 (lW rfl rfl (m := a.mag) (n := 0)) rfl <| g0 (ah rfl) rfl <| ge1 rfl rfl (fun hg => (Rd.of_nil (fa uu38 rfl zz4 rfl rfl rfl (k' := 0))).step) rfl <| ge1 rfl rfl (fun hg => (Rd.of_mem (i := 0) (aX aa4 zz4 (ar rfl hg) rfl rfl (v := (.bool a.neg)) rfl) rfl).step) rfl <| g0 (dQ rfl (fun e => (ar rfl e))) rfl <| g0 (ah rfl) rfl <| ge2 rfl rfl (fun hg => (Rd.of_nil (fa uu38 rfl zz9 rfl rfl rfl (k' := 1))).step) rfl <| ge2 rfl rfl (fun hg => (Rd.of_mem (i := 0) (aX aa9 zz9 (ar rfl hg) rfl rfl (v := (.string (bs a.mag))) rfl) rfl).step) rfl <| ge2 rfl rfl (fun hg => (Rd.of_nil (kR (ar rfl hg) rfl (m := a.mag) (n := 0))).step) rfl <| ge2 rfl rfl (fun hg => (Rd.of_nil (ah (ar rfl hg))).step) rfl <| ge3 rfl rfl (fun hg => (Rd.of_nil (fa uu38 rfl zz9 rfl rfl rfl (k' := 1))).step) rfl <| ge3 rfl rfl (fun hg => (Rd.of_mem (i := 0) (aX aa9 zz9 (ar rfl hg) rfl rfl (v := (.string (bs a.mag))) rfl) rfl).step) rfl <| ge3 rfl rfl (fun hg => (Rd.of_nil (n8 Tryz.runUnderlying9 (ar rfl hg) rfl (by first | omega | (simp at hg; omega) | grind))).step) rfl <| ge3 rfl rfl (fun hg => (Rd.of_nil (dP (ar rfl hg) rfl (m := (((px a.mag) : Nat) : Int)) (n := ((0 : Nat) : Int)))).step) rfl <| ge2 rfl rfl (fun hg => (Rd.of_nil (dQ (ar rfl hg) (fun e => (ar rfl (andI hg e))))).step) rfl <| g0 (nr rfl (fun e => (ar rfl (ns e)))) rfl <| gn hK3 ?_; clear h ac; intro ac wo h
 replace h := h.sub (F' := [(20, (.bool (((decide (a.mag = 0)) && a.neg) || ((!(decide (a.mag = 0))) && (((((px a.mag) : Nat) : Int)) == (((0 : Nat) : Int)))))))]) ⟨rfl, trivial⟩
 refine cr h rfl (fun hc1 => ?_) (fun hc1 => ?_)
 ·
  have hq1 := hc1; try simp at hq1
  refine gz h <| gr fun K4 hK4 => g0 (ag rfl) rfl <| gn hK4 <| gT ?_; clear h ac wo; intro ac wo h
  have hd : em a = 5 := (cT hc1)
  exact ret h rfl (.tmp rfl .nil) rfl (h.retP (by rw [hd] <;> rfl) trivial)
 ·
  have hq1 := hc1; try simp at hq1
  refine gz h <| gS <| gx hK2 <| gr fun K5 hK5 => g0 (ag rfl) rfl <| gn hK5 <| gT ?_; clear h ac wo; intro ac wo h
  have hd : em a = 0 := (cF hc1)
  exact ret h rfl (.tmp rfl .nil) rfl (h.retP (by rw [hd] <;> rfl) trivial)
attribute [irreducible] em
def cA (a : GQ) : Int :=
 bif (((em a.num) != 0) || ((em a.den) != 0)) then
  5
 else
  bif (decide (a.den = (⟨false, 0⟩ : GI))) then
   0
  else
   bif ((decide ((aO a.den rational_one) ≤ 0)) || (!(decide ((au a.num a.den) = rational_one)))) then
    5
   else
    0
theorem fE (a : GQ) (za : SzQ 16 a) (w0 : World)  : Calls Tryz.prog 104 #[(vQ a)] w0 (dZ w0 (.int .i64 (cA a)) (True)) := by
  refine enter (N := 31) (args := [(vQ a)]) Tryz.func104 rfl rfl ?_; intro ac h
  refine dL fun K1 hK1 => ?_
  refine bx h (cQ a) rfl rfl rfl fun b1 => g0 (ag rfl) rfl <| gn hK1 <| gq fun K2 hK2 => gr fun K3 hK3 => g0 (fa uu40 rfl zz38 rfl rfl rfl (k' := 0)) rfl <| g1 0 rfl (aX aa38 zz38 rfl rfl rfl (v := (vI a.num)) rfl) rfl <| gc (bK Tryz.call162 rfl) (kk (iE a.num za.1)) rfl <| g0 (fV rfl rfl) rfl <| g0 (ah rfl) rfl <| ge2 rfl rfl (fun hg => (Rd.of_nil (fa uu40 rfl zz38 rfl rfl rfl (k' := 2))).step) rfl <| ge2 rfl rfl (fun hg => (Rd.of_mem (i := 0) (aX aa38 zz38 (ar rfl hg) rfl rfl (v := (vI a.den)) rfl) rfl).step) rfl <| ge2 rfl rfl (fun hg => dS (bK Tryz.call162 (bB (ar rfl hg) rfl)) (kk (iE a.den za.2))) rfl <| ge2 rfl rfl (fun hg => (Rd.of_nil (fV (ar rfl hg) rfl)).step) rfl <| g0 (nr rfl (fun e => (ar rfl (ns e)))) rfl <| gn hK3 ?_; clear h ac; intro ac wo h
  refine cr h rfl (fun hc1 => ?_) (fun hc1 => ?_)
  · skip
    have hq1 := hc1; try simp at hq1
    refine gz h <| gr fun K4 hK4 => g0 (ag rfl) rfl <| gn hK4 <| gT ?_; clear h ac wo; intro ac wo h
    have hd : cA a = 5 := (cT hc1)
    exact ret h rfl (.tmp rfl .nil) rfl (h.retP (by rw [hd] <;> rfl) trivial)
  · skip
    have hq1 := hc1; try simp at hq1
    refine gz h <| gS <| gx hK2 <| gq fun K5 hK5 => gr fun K6 hK6 => g0 (fa uu40 rfl zz38 rfl rfl rfl (k' := 2)) rfl <| g1 0 rfl (aX aa38 zz38 rfl rfl rfl (v := (vI a.den)) rfl) rfl <| g0 (bp mu rfl rfl (v := (vI (⟨false, 0⟩ : GI))) rfl) rfl <| g0 (fq pi rfl rfl) rfl <| gn hK6 ?_; clear h ac wo; intro ac wo h
    replace h := h.sub (F' := [(1, (ptr b1 0)), (16, (.bool (decide (a.den = (⟨false, 0⟩ : GI)))))]) ⟨rfl, rfl, trivial⟩
    refine cr h rfl (fun hc2 => ?_) (fun hc2 => ?_)
    · skip
      have hd2 := of_decide_eq_true hc2
      refine gz h <| gr fun K7 hK7 => g0 (ag rfl) rfl <| gn hK7 <| gT ?_; clear h ac wo; intro ac wo h
      have hd : cA a = 0 := (Eq.trans (cF hc1) (cT hc2))
      exact ret h rfl (.tmp rfl .nil) rfl (h.retP (by rw [hd] <;> rfl) trivial)
    · skip
      have hd2 := of_decide_eq_false hc2
      refine dF ?_
      refine hK5 _ _ ?_
      refine dg fun K8 hK8 => ?_
      refine dg fun K9 hK9 => ?_
      have c1 := dM  40 (by omega) 
      have s1 := az (c1 w0)
      have p3 := az ((eP a.den rational_one 16 (by omega) za.2 (im s1 (by omega))) w0)
      have s4 := az ((fO a.num a.den 16 (by omega) za.1 za.2) w0)
      have s5 := az ((dM  40 (by omega) ) w0)
      refine cj mixed [⟨.det (ptr b1 2), []⟩, ⟨.det (vI a.den), [0]⟩, ⟨.det (vI rational_one), []⟩, ⟨.det (.int .i64 (aO a.den rational_one)), []⟩, ⟨.det (.bool (decide ((aO a.den rational_one) ≤ 0))), []⟩, ⟨.det (.bool (decide ((aO a.den rational_one) ≤ 0))), []⟩, ⟨.det (gv (!(decide ((aO a.den rational_one) ≤ 0))) (ptr b1 0)), []⟩, ⟨.det (gv (!(decide ((aO a.den rational_one) ≤ 0))) (vI a.num)), [0]⟩, ⟨.det (gv (!(decide ((aO a.den rational_one) ≤ 0))) (ptr b1 2)), []⟩, ⟨.det (gv (!(decide ((aO a.den rational_one) ≤ 0))) (vI a.den)), [0]⟩, ⟨.det (gv (!(decide ((aO a.den rational_one) ≤ 0))) (vI (au a.num a.den))), []⟩, ⟨.det (gv (!(decide ((aO a.den rational_one) ≤ 0))) (vI rational_one)), []⟩, ⟨.det (gv (!(decide ((aO a.den rational_one) ≤ 0))) (.bool (!(decide ((au a.num a.den) = rational_one))))), []⟩, ⟨.det (.bool ((decide ((aO a.den rational_one) ≤ 0)) || (!(decide ((au a.num a.den) = rational_one))))), []⟩] [⟨.blk b1 (cQ a) 40, []⟩] h rfl (by kernel_rfl) ⟨?_, ?_, ?_, ?_, ?_, ?_, ?_, ?_, ?_, ?_, ?_, ?_, ?_, ?_, trivial⟩ ?_
      · intro ξ hφ; exact ax (fa uu40 rfl zz38 rfl rfl rfl (k' := 2))
      · intro ξ hφ; exact cq [.blk b1 (cQ a) 40] rfl rfl (aX aa38 zz38 rfl rfl rfl (v := (vI a.den)) rfl)
      · intro ξ hφ; exact dU (dS (bK Tryz.call164 rfl) (kk c1))
      · intro ξ hφ; exact dU (dS (bK Tryz.call163 rfl) (kk (eP a.den rational_one 16 (by omega) za.2 (im s1 (by omega)))))
      · intro ξ hφ; exact ax (r_leq rfl rfl)
      · intro ξ hφ; exact ax (ah rfl)
      · intro ξ hφ; exact it (c := true) (b := (decide ((aO a.den rational_one) ≤ 0))) (g := (!(decide ((aO a.den rational_one) ≤ 0)))) [] rfl rfl rfl rfl g_f (fun hg => Rd.step (fa uu40 rfl zz38 rfl rfl rfl (k' := 0)))
      · intro ξ hφ; exact it (c := true) (b := (decide ((aO a.den rational_one) ≤ 0))) (g := (!(decide ((aO a.den rational_one) ≤ 0)))) [.blk b1 (cQ a) 40] rfl rfl rfl rfl g_f (fun hg => Rd.step (aX aa38 zz38 (ar rfl hg) rfl rfl (v := (vI a.num)) rfl))
      · intro ξ hφ; exact it (c := true) (b := (decide ((aO a.den rational_one) ≤ 0))) (g := (!(decide ((aO a.den rational_one) ≤ 0)))) [] rfl rfl rfl rfl g_f (fun hg => Rd.step (fa uu40 rfl zz38 rfl rfl rfl (k' := 2)))
      · intro ξ hφ; exact it (c := true) (b := (decide ((aO a.den rational_one) ≤ 0))) (g := (!(decide ((aO a.den rational_one) ≤ 0)))) [.blk b1 (cQ a) 40] rfl rfl rfl rfl g_f (fun hg => Rd.step (aX aa38 zz38 (ar rfl hg) rfl rfl (v := (vI a.den)) rfl))
      · intro ξ hφ; exact it (c := true) (b := (decide ((aO a.den rational_one) ≤ 0))) (g := (!(decide ((aO a.den rational_one) ≤ 0)))) [] rfl rfl rfl rfl g_f (fun hg => dS (bK Tryz.call165 (bB (ar rfl hg) (bB (ar rfl hg) rfl))) (kk (fO a.num a.den 16 (by omega) za.1 za.2)))
      · intro ξ hφ; exact it (c := true) (b := (decide ((aO a.den rational_one) ≤ 0))) (g := (!(decide ((aO a.den rational_one) ≤ 0)))) [] rfl rfl rfl rfl g_f (fun hg => dS (bK Tryz.call164 rfl) (kk (dM  40 (by omega) )))
      · intro ξ hφ; exact it (c := true) (b := (decide ((aO a.den rational_one) ≤ 0))) (g := (!(decide ((aO a.den rational_one) ≤ 0)))) [] rfl rfl rfl rfl g_f (fun hg => Rd.step (nZ pi (ar rfl hg) (ar rfl hg)))
      · intro ξ hφ; exact ax (nr rfl (fun e => (ar rfl (ns e))))
      clear h ac wo; intro ξ ac wo hφ h
      replace h : St w0 31 [(30, (.bool ((decide ((aO a.den rational_one) ≤ 0)) || (!(decide ((au a.num a.den) = rational_one))))))] [.blk b1 (cQ a) 40] ac wo := (h.pick [0] (by decide)).sub ⟨rfl, trivial⟩
      clear hφ ξ
      refine hK9 _ _ ?_
      refine cr h rfl (fun hc3 => ?_) (fun hc3 => ?_)
      · skip
        have hq3 := hc3; try simp at hq3
        refine gz h <| gr fun K10 hK10 => g0 (ag rfl) rfl <| gn hK10 <| gT ?_; clear h ac wo; intro ac wo h
        have hd : cA a = 5 := (Eq.trans (cF hc1) (Eq.trans (cF hc2) (cT hc3)))
        exact ret h rfl (.tmp rfl .nil) rfl (h.retP (by rw [hd] <;> rfl) trivial)
      · skip
        have hq3 := hc3; try simp at hq3
        refine gz h <| gS <| gx hK8 <| gr fun K11 hK11 => g0 (ag rfl) rfl <| gn hK11 <| gT ?_; clear h ac wo; intro ac wo h
        have hd : cA a = 0 := (Eq.trans (cF hc1) (Eq.trans (cF hc2) (cF hc3)))
        exact ret h rfl (.tmp rfl .nil) rfl (h.retP (by rw [hd] <;> rfl) trivial)
attribute [irreducible] cA
end Go.Sx
namespace Go.Sx
open Go Go.RowKit Go.Proofs
set_option maxRecDepth 100000
set_option maxHeartbeats 40000000
attribute [local irreducible] aA bT ak aH bJ aP aF aE cO bm aw
def ce (x : U Qd) (y : U Qd) : Bool :=
 ((decide (x.iv = y.iv)) && (aS x.f y.f))
theorem iI (x : U Qd) (y : U Qd) (b : Nat) (zx : gM 20 x) (zy : gM 20 y) (w0 : World) (hbp : PV w0 b [.iface 73 (.agg #[])]) : Calls Tryz.prog 112 #[(vUD x), (vUD y), (ptr b 0)] w0 (dZ w0 (.bool (ce x y)) (True)) := by
 refine enter (N := 19) (args := [(vUD x), (vUD y), (ptr b 0)]) Tryz.func112 rfl rfl ?_; intro ac h
 refine dL fun K1 hK1 => ?_
 refine bx h (cUD x) rfl rfl rfl fun b1 => gb (cUD y) rfl rfl rfl fun b2 => g0 (ag rfl) rfl <| gn hK1 <| gr fun K2 hK2 => g0 (fa uu87 rfl zz55 rfl rfl rfl (k' := 0)) rfl <| g1 1 rfl (aX aa55 zz55 rfl rfl rfl (v := (vV x.iv)) rfl) rfl <| g0 (fa uu87 rfl zz55 rfl rfl rfl (k' := 0)) rfl <| g1 0 rfl (aX aa55 zz55 rfl rfl rfl (v := (vV y.iv)) rfl) rfl <| g0 (fq eqp55 rfl rfl) rfl <| g0 (ah rfl) rfl <| ge1 rfl rfl (fun hg => (Rd.of_nil (r_ldP hbp Tryz.isAgg169 Tryz.sizeOf169 rfl rfl rfl (v := (.iface 73 (.agg #[]))) rfl)).step) rfl <| ge1 rfl rfl (fun hg => (Rd.of_nil (fa uu87 rfl zz69 rfl rfl rfl (k' := 20))).step) rfl <| ge1 rfl rfl (fun hg => (Rd.of_mem (i := 1) (aX aa69 zz69 (ar rfl hg) rfl rfl (v := (vD x.f)) rfl) rfl).step) rfl <| ge1 rfl rfl (fun hg => (Rd.of_nil (fa uu87 rfl zz69 rfl rfl rfl (k' := 20))).step) rfl <| ge1 rfl rfl (fun hg => (Rd.of_mem (i := 0) (aX aa69 zz69 (ar rfl hg) rfl rfl (v := (vD y.f)) rfl) rfl).step) rfl <| ge1 rfl rfl (fun hg => dS (jf fT Tryz.call305 (ar rfl hg) (bB (ar rfl hg) (bB (ar rfl hg) rfl))) (kk (eg x.f y.f zx.2 zy.2))) rfl <| g0 (dQ rfl (fun e => (ar rfl e))) rfl <| g0 (ag rfl) rfl <| gn hK2 ?_; clear h ac; intro ac wo h
 replace h := h.sub (F' := [(5, (.bool ((decide (x.iv = y.iv)) && (aS x.f y.f))))]) ⟨rfl, trivial⟩
 refine e8 ?_
 exact ret h rfl (.tmp rfl .nil) rfl (h.retP (by unfold ce; rfl) trivial)
attribute [irreducible] ce
def eqUQ_K1 (xs : List (U Qd)) (ys : List (U Qd)) (x17 : Nat) : Bool :=
 true
def iA (xs : List (U Qd)) (ys : List (U Qd)) (x17 : Nat) : Nx Nat Bool :=
 bif (decide (((x17 : Nat) : Int) < ((xs.length : Nat) : Int))) then
  bif (!(ce (gt xs x17) (gt ys x17))) then
   .ret false
  else
   .go (x17 + 1)
 else
  .out x17
def eqUQ (xs : List (U Qd)) (ys : List (U Qd)) : Bool :=
 bif ((((xs.length : Nat) : Int)) != (((ys.length : Nat) : Int))) then
  false
 else
  fin (bS (fun s => iA xs ys s) ((xs.length - 0) + 1) 0) (fun s => eqUQ_K1 xs ys s) (fun r => r)
theorem eqUQ_ct (xs : List (U Qd)) (xsv : Value) (ys : List (U Qd)) (ysv : Value) (b : Nat) (zxs : All (gM 20) xs) (zys : All (gM 20) ys) (w0 : World) (hxsv : View w0 xsv xs) (hysv : View w0 ysv ys) (hbp : PV w0 b [.iface 73 (.agg #[])]) : Calls Tryz.prog 111 #[xsv, ysv, (.func (.func 112) #[] #[(ptr b 0)])] w0 (dZ w0 (.bool (eqUQ xs ys)) (True)) := by
 refine enter (N := 32) (args := [xsv, ysv, (.func (.func 112) #[] #[(ptr b 0)])]) Tryz.func111 rfl rfl ?_; intro ac h
 have hlenxs := hxsv.len
 have hlenys := hysv.len
 refine dL fun K1 hK1 => ?_
 refine rd0 h (ag rfl) rfl <| gn hK1 <| gq fun K2 hK2 => gr fun K3 hK3 => g0 (ah rfl) rfl <| g0 (dk uu24 rfl hxsv.sl) rfl <| g0 (ah rfl) rfl <| g0 (dk uu24 rfl hysv.sl) rfl <| g0 (fV rfl rfl (m := ((xs.length : Nat) : Int)) (n := ((ys.length : Nat) : Int))) rfl <| gn hK3 ?_; clear h ac; intro ac wo h
 refine cr h rfl (fun hc1 => ?_) (fun hc1 => ?_)
 ·
  have hq1 := hc1; try simp at hq1
  refine gz h <| gr fun K4 hK4 => g0 (ag rfl) rfl <| gn hK4 <| gT ?_; clear h ac wo; intro ac wo h
  have hd : eqUQ xs ys = false := (cT hc1)
  exact ret h rfl (.tmp rfl .nil) rfl (h.retP (by rw [hd] <;> rfl) trivial)
 ·
  have hq1 := hc1; try simp at hq1
  refine gz h <| gS <| gx hK2 <| gq fun K5 hK5 => gr fun K6 hK6 => g0 (ah rfl) rfl <| g0 (dk uu24 rfl hxsv.sl) rfl <| g0 (ah rfl) rfl <| gn hK6 <| gB ?_; clear h ac wo; intro ac wo h
  obtain ⟨X1, hX1⟩ : ∃ X, bS (fun s => iA xs ys s) ((xs.length - 0) + 1) 0 = X := ⟨_, rfl⟩
  refine wp_loop_ghost (fun n_ a_ w_ => ∃ (x17 : Nat), ((xs.length - x17) < n_) ∧ (bS (fun s => iA xs ys s) n_ x17 = X1) ∧ (x17 ≤ xs.length) ∧ St w0 32 [(1, ysv), (2, (.func (.func 112) #[] #[(ptr b 0)])), (15, xsv), (16, (.int .i64 ((xs.length : Nat) : Int))), (17, (.int .i64 ((x17 : Nat) : Int)))] [] a_ w_) ((xs.length - 0) + 1) ⟨0, (by omega), hX1, (by first | omega | assumption | grind), (h.sub ⟨rfl, rfl, rfl, rfl, rfl, trivial⟩)⟩ ?_
  clear h ac wo; rintro n1 ac wo ⟨x17, hm1, hL1, hx17, h⟩
  obtain ⟨m1, rfl⟩ : ∃ m, n1 = m + 1 := ⟨n1 - 1, by omega⟩
  refine gz h <| gr fun K7 hK7 => g0 (dJ rfl rfl) rfl <| gn hK7 <| gq fun K8 hK8 => ?_; clear h ac wo; intro ac wo h
  refine cr h rfl (fun hc2 => ?_) (fun hc2 => ?_)
  ·
   have hd2 := of_decide_eq_true hc2
   refine gz h <| gS <| gx hK8 <| gq fun K9 hK9 => gB <| gr fun K10 hK10 => g0 (ah rfl) rfl <| g0 (da (i := x17) uu24 zz87 rfl rfl (hxsv.nn (i := x17) (by first | omega | assumption | grind)) (by first | omega | assumption | grind)) rfl <| g0 (eC (k := 0) aa87 zz87 hxsv (bF (by first | omega | assumption | grind)) rfl (Nat.add_zero _) rfl rfl (v := (vUD (gt xs x17))) rfl) rfl <| ga (cUD (⟨(⟨(⟨oQ, oQ, false⟩ : GR), (⟨oQ, oQ, false⟩ : GR), false, false⟩ : Iv), oD⟩ : U Qd)) vv87 rfl rfl fun b1 => g0 (ag rfl) rfl <| gs 0 (cUD (gt xs x17)) rfl zz87 rfl rfl rfl rfl rfl rfl rfl <| gn hK10 <| gr fun K11 hK11 => g0 (ah rfl) rfl <| g0 (ah rfl) rfl <| g0 (da (i := x17) uu24 zz87 rfl rfl (hysv.nn (i := x17) (by first | omega | assumption | grind)) (by first | omega | assumption | grind)) rfl <| g0 (eC (k := 0) aa87 zz87 hysv (bF (by first | omega | assumption | grind)) rfl (Nat.add_zero _) rfl rfl (v := (vUD (gt ys x17))) rfl) rfl <| ga (cUD (⟨(⟨(⟨oQ, oQ, false⟩ : GR), (⟨oQ, oQ, false⟩ : GR), false, false⟩ : Iv), oD⟩ : U Qd)) vv87 rfl rfl fun b2 => gs 0 (cUD (gt ys x17)) rfl zz87 rfl rfl rfl rfl rfl rfl rfl <| gn hK11 <| gr fun K12 hK12 => g0 (ah rfl) rfl <| g1 1 rfl (aX aa87 zz87 rfl rfl rfl (v := (vUD (gt xs x17))) rfl) rfl <| g1 0 rfl (aX aa87 zz87 rfl rfl rfl (v := (vUD (gt ys x17))) rfl) rfl <| gc (nJ (cap := [(ptr b 0)]) Tryz.call112 rfl rfl) (fun w_ hB_ hS_ => iI (gt xs x17) (gt ys x17) b (All.gt zxs (aV _)) (All.gt zys (aV _)) w_ (hbp.below hB_)) rfl <| g0 (ex rfl) rfl <| gn hK12 ?_; clear h ac wo; intro ac wo h
   replace h := h.sub (F' := [(1, ysv), (2, (.func (.func 112) #[] #[(ptr b 0)])), (15, xsv), (16, (.int .i64 ((xs.length : Nat) : Int))), (17, (.int .i64 ((x17 : Nat) : Int))), (30, (.bool (!(ce (gt xs x17) (gt ys x17)))))]) ⟨rfl, rfl, rfl, rfl, rfl, rfl, trivial⟩
   refine cr h rfl (fun hc3 => ?_) (fun hc3 => ?_)
   ·
    have hq3 := hc3; try simp at hq3
    refine gz h <| gr fun K13 hK13 => g0 (ag rfl) rfl <| gn hK13 <| gT ?_; clear h ac wo; intro ac wo h
    have hr1 := eO hL1 (show iA xs ys x17 = .ret false from (Eq.trans (cT hc2) (cT hc3)))
    have hd : eqUQ xs ys = false := (Eq.trans (cF hc1) (je (hX1.trans hr1)))
    exact ret h rfl (.tmp rfl .nil) rfl (h.retP (by rw [hd] <;> rfl) trivial)
   ·
    have hq3 := hc3; try simp at hq3
    refine gz h <| gS <| gN <| gx hK9 <| gR <| g0 (bI rfl rfl (r := ((x17 + 1 : Nat) : Int)) (by rw [IntKind.wrap_i64]; first | omega | grind)) rfl <| g0 (ah rfl) rfl <| gx (fun _ _ => bG) ?_; clear h ac wo; intro ac wo h
    exact aI ⟨m1, (by omega), _, (by first | omega | assumption | grind), bU hL1 (show iA xs ys x17 = .go _ from (Eq.trans (cT hc2) (cF hc3))), (by first | omega | assumption | grind), (h.pick [] (by decide)).sub ⟨rfl, rfl, rfl, rfl, rfl, trivial⟩⟩
  ·
   have hd2 := of_decide_eq_false hc2
   refine dX ?_
   have hx1 := dR hL1 (show iA xs ys x17 = .out x17 from (cF hc2))
   refine gz h <| gx hK5 <| gr fun K14 hK14 => g0 (ag rfl) rfl <| gn hK14 <| gT ?_; clear h ac wo; intro ac wo h
   have hd : eqUQ xs ys = true := (Eq.trans (cF hc1) (eW (hX1.trans hx1)))
   exact ret h rfl (.tmp rfl .nil) rfl (h.retP (by rw [hd] <;> rfl) trivial)
attribute [irreducible] eqUQ
def cY (a : List (U Qd)) (b : List (U Qd)) : Bool :=
 (eqUQ a b)
theorem jc (a : List (U Qd)) (av : Value) (b : List (U Qd)) (bv : Value) (za : All (gM 20) a) (zb : All (gM 20) b) (w0 : World) (hav : View w0 av a) (hbv : View w0 bv b) : Calls Tryz.prog 44 #[(.iface 73 (.agg #[])), av, bv] w0 (dZ w0 (.bool (cY a b)) (True)) := by
 refine enter (N := 11) (args := [(.iface 73 (.agg #[])), av, bv]) Tryz.func44 rfl rfl ?_; intro ac h
 have hlena := hav.len
 have hlenb := hbv.len
 refine dL fun K1 hK1 => ?_
 refine bx h [.iface 73 (.agg #[])] rfl rfl rfl fun b1 => g0 (ag rfl) rfl <| gn hK1 <| gr fun K2 hK2 => g0 (ah rfl) rfl <| g0 (ah rfl) rfl <| g0 (lC rfl) rfl <| gc (bK Tryz.call111 rfl) (fun w_ hB_ hS_ => eqUQ_ct a av b bv b1 za zb w_ (hav.below hB_) (hbv.below hB_) (blk_pv hS_ 0 rfl)) rfl <| g0 (ag rfl) rfl <| gn hK2 <| gT ?_; clear h ac; intro ac wo h
 exact ret h rfl (.tmp rfl .nil) rfl (h.retP (by unfold cY; rfl) trivial)
attribute [irreducible] cY
def jE (q : Qd) (x12 : Nat) : Int :=
 0
def cN (q : Qd) (x12 : Nat) : Nx Nat Int :=
 bif (decide (((x12 : Nat) : Int) < 3)) then
  bif ((cA (gt [q.c0, q.c1, q.c2] x12)) != 0) then
   .ret 5
  else
   .go (x12 + 1)
 else
  .out x12
def cP (q : Qd) : Int :=
 fin (bS (fun s => cN q s) ((3 - 0) + 1) 0) (fun s => jE q s) (fun r => r)
theorem gW (q : Qd) (zq : SzD 16 q) (w0 : World)  : Calls Tryz.prog 114 #[(vD q)] w0 (dZ w0 (.int .i64 (cP q)) (True)) := by
 refine enter (N := 19) (args := [(vD q)]) Tryz.func114 rfl rfl ?_; intro ac h
 refine dL fun K1 hK1 => ?_
 refine bx h (cD q) rfl rfl rfl fun b1 => g0 (ag rfl) rfl <| gn hK1 <| gq fun K2 hK2 => gr fun K3 hK3 => g0 (fa uu69 rfl zz40 rfl rfl rfl (k' := 0)) rfl <| g1 0 rfl (aX aa40 zz40 rfl rfl rfl (v := (vQ q.c0)) rfl) rfl <| g0 (fa uu69 rfl zz40 rfl rfl rfl (k' := 4)) rfl <| g1 0 rfl (aX aa40 zz40 rfl rfl rfl (v := (vQ q.c1)) rfl) rfl <| g0 (fa uu69 rfl zz40 rfl rfl rfl (k' := 8)) rfl <| g1 0 rfl (aX aa40 zz40 rfl rfl rfl (v := (vQ q.c2)) rfl) rfl <| g0 (r_buildA (α := GQ) (xs := [.tmp 6, .tmp 8, .tmp 10]) (vs := [(vQ q.c0), (vQ q.c1), (vQ q.c2)]) [q.c0, q.c1, q.c2] Tryz.zeroValue237 uu237 zz40 rfl rfl rfl) rfl <| g0 (ah rfl) rfl <| gn hK3 <| gB ?_; clear h ac; intro ac wo h
 obtain ⟨X1, hX1⟩ : ∃ X, bS (fun s => cN q s) ((3 - 0) + 1) 0 = X := ⟨_, rfl⟩
 refine wp_loop_ghost (fun n_ a_ w_ => ∃ (x12 : Nat), ((3 - x12) < n_) ∧ (bS (fun s => cN q s) n_ x12 = X1) ∧ (x12 ≤ 3) ∧ St w0 19 [(11, (.agg (flat [q.c0, q.c1, q.c2]).toArray)), (12, (.int .i64 ((x12 : Nat) : Int)))] [.blk b1 (cD q) 69] a_ w_) ((3 - 0) + 1) ⟨0, (by omega), hX1, (by first | omega | assumption | grind), (h.sub ⟨rfl, rfl, trivial⟩)⟩ ?_
 clear h ac wo; rintro n1 ac wo ⟨x12, hm1, hL1, hx12, h⟩
 obtain ⟨m1, rfl⟩ : ∃ m, n1 = m + 1 := ⟨n1 - 1, by omega⟩
 refine gz h <| gr fun K4 hK4 => g0 (dJ rfl rfl) rfl <| gn hK4 <| gq fun K5 hK5 => ?_; clear h ac wo; intro ac wo h
 refine cr h rfl (fun hc1 => ?_) (fun hc1 => ?_)
 ·
  have hd1 := of_decide_eq_true hc1
  refine gz h <| gS <| gx hK5 <| gq fun K6 hK6 => gB <| gr fun K7 hK7 => g0 (r_indexA (i := x12) (us := [q.c0, q.c1, q.c2]) (u := (gt [q.c0, q.c1, q.c2] x12)) uu237 zz40 aa40 rfl rfl (by first | omega | assumption | grind) (bF (by simp; omega)) (v := (vQ (gt [q.c0, q.c1, q.c2] x12))) rfl) rfl <| ga (cQ oQ) vv40 rfl rfl fun b2 => gs 0 (cQ (gt [q.c0, q.c1, q.c2] x12)) rfl zz40 rfl rfl rfl rfl rfl rfl rfl <| gn hK7 <| gr fun K8 hK8 => g1 0 rfl (aX aa40 zz40 rfl rfl rfl (v := (vQ (gt [q.c0, q.c1, q.c2] x12))) rfl) rfl <| gc (bK cc104 rfl) (kk (fE (gt [q.c0, q.c1, q.c2] x12) (All.gt (All.cons zq.1 (All.cons zq.2.1 (All.cons zq.2.2 All.nil))) (pw _)))) rfl <| g0 (fV rfl rfl) rfl <| gn hK8 ?_; clear h ac wo; intro ac wo h
  refine cr h rfl (fun hc2 => ?_) (fun hc2 => ?_)
  ·
   have hq2 := hc2; try simp at hq2
   refine gz h <| gr fun K9 hK9 => g0 (ag rfl) rfl <| gn hK9 <| gT ?_; clear h ac wo; intro ac wo h
   have hr1 := eO hL1 (show cN q x12 = .ret 5 from (Eq.trans (cT hc1) (cT hc2)))
   have hd : cP q = 5 := (je (hX1.trans hr1))
   exact ret h rfl (.tmp rfl .nil) rfl (h.retP (by rw [hd] <;> rfl) trivial)
  ·
   have hq2 := hc2; try simp at hq2
   refine gz h <| gS <| gN <| gx hK6 <| gR <| g0 (bI rfl rfl (r := ((x12 + 1 : Nat) : Int)) (by rw [IntKind.wrap_i64]; first | omega | grind)) rfl <| g0 (ah rfl) rfl <| gx (fun _ _ => bG) ?_; clear h ac wo; intro ac wo h
   exact aI ⟨m1, (by omega), _, (by first | omega | assumption | grind), bU hL1 (show cN q x12 = .go _ from (Eq.trans (cT hc1) (cF hc2))), (by first | omega | assumption | grind), (h.pick [1] (by decide)).sub ⟨rfl, rfl, trivial⟩⟩
 ·
  have hd1 := of_decide_eq_false hc1
  refine dX ?_
  have hx1 := dR hL1 (show cN q x12 = .out x12 from (cF hc1))
  refine gz h <| gx hK2 <| gr fun K10 hK10 => g0 (ag rfl) rfl <| gn hK10 <| gT ?_; clear h ac wo; intro ac wo h
  have hd : cP q = 0 := (eW (hX1.trans hx1))
  exact ret h rfl (.tmp rfl .nil) rfl (h.retP (by rw [hd] <;> rfl) trivial)
attribute [irreducible] cP
def bX (f : Qd) : Int :=
 (cP f)
theorem iP (f : Qd) (zf : SzD 30 f) (w0 : World)  : Calls Tryz.prog 304 #[(.agg #[]), (vD f)] w0 (dZ w0 (.int .i64 (bX f)) (True)) := by
 refine enter (N := 7) (args := [(.agg #[]), (vD f)]) Tryz.func304 rfl rfl ?_; intro ac h
 refine dL fun K1 hK1 => ?_
 refine bx h [] rfl rfl rfl fun b1 => gb (cD f) rfl rfl rfl fun b2 => g0 (ag rfl) rfl <| gn hK1 <| gr fun K2 hK2 => g1 0 rfl (aX aa69 zz69 rfl rfl rfl (v := (vD f)) rfl) rfl <| gc (bK Tryz.call114 rfl) (kk (gW f (ch zf (by omega)))) rfl <| g0 (ag rfl) rfl <| gn hK2 <| gT ?_; clear h ac; intro ac wo h
 exact ret h rfl (.tmp rfl .nil) rfl (h.retP (by unfold bX; rfl) trivial)
attribute [irreducible] bX
def co (i : Iv) : Bd :=
 (⟨i.lo, i.openLo⟩ : Bd)
theorem iR (i : Iv) (zi : SzV 30 i) (w0 : World)  : Calls Tryz.prog 136 #[(vV i)] w0 (dZ w0 (vW (co i)) (SzW 30 (co i))) := by
 refine enter (N := 8) (args := [(vV i)]) Tryz.func136 rfl rfl ?_; intro ac h
 refine dL fun K1 hK1 => ?_
 refine bx h (cV i) rfl rfl rfl fun b1 => ga (cW (⟨(⟨oQ, oQ, false⟩ : GR), false⟩ : Bd)) vv203 rfl rfl fun b2 => gn hK1 <| gr fun K2 hK2 => g0 (fa uu55 rfl zz53 rfl rfl rfl (k' := 0)) rfl <| g1 1 rfl (aX aa53 zz53 rfl rfl rfl (v := (vR i.lo)) rfl) rfl <| g0 (fa uu55 rfl zz4 rfl rfl rfl (k' := 18)) rfl <| g1 1 rfl (aX aa4 zz4 rfl rfl rfl (v := (.bool i.openLo)) rfl) rfl <| g0 (bp bld203 rfl rfl (v := (vW (⟨i.lo, i.openLo⟩ : Bd))) rfl) rfl <| gs 0 (cW (⟨i.lo, i.openLo⟩ : Bd)) rfl zz203 rfl rfl rfl rfl rfl rfl rfl <| gn hK2 <| gT ?_; clear h ac; intro ac wo h
 exact ret h rfl (.cell (v := (vW (⟨i.lo, i.openLo⟩ : Bd))) rfl (i := 0) rfl Tryz.isAgg203 zz203 rfl rfl rfl .nil) rfl (h.retP (by unfold co; rfl) (by unfold co; exact zi.1))
attribute [irreducible] co
def cE (i : Iv) : Bd :=
 (⟨i.hi, (!i.openHi)⟩ : Bd)
theorem jh (i : Iv) (zi : SzV 30 i) (w0 : World)  : Calls Tryz.prog 135 #[(vV i)] w0 (dZ w0 (vW (cE i)) (SzW 30 (cE i))) := by
 refine enter (N := 9) (args := [(vV i)]) Tryz.func135 rfl rfl ?_; intro ac h
 refine dL fun K1 hK1 => ?_
 refine bx h (cV i) rfl rfl rfl fun b1 => ga (cW (⟨(⟨oQ, oQ, false⟩ : GR), false⟩ : Bd)) vv203 rfl rfl fun b2 => gn hK1 <| gr fun K2 hK2 => g0 (fa uu55 rfl zz53 rfl rfl rfl (k' := 9)) rfl <| g1 1 rfl (aX aa53 zz53 rfl rfl rfl (v := (vR i.hi)) rfl) rfl <| g0 (fa uu55 rfl zz4 rfl rfl rfl (k' := 19)) rfl <| g1 1 rfl (aX aa4 zz4 rfl rfl rfl (v := (.bool i.openHi)) rfl) rfl <| g0 (ex rfl) rfl <| g0 (bp bld203 rfl rfl (v := (vW (⟨i.hi, (!i.openHi)⟩ : Bd))) rfl) rfl <| gs 0 (cW (⟨i.hi, (!i.openHi)⟩ : Bd)) rfl zz203 rfl rfl rfl rfl rfl rfl rfl <| gn hK2 <| gT ?_; clear h ac; intro ac wo h
 exact ret h rfl (.cell (v := (vW (⟨i.hi, (!i.openHi)⟩ : Bd))) rfl (i := 0) rfl Tryz.isAgg203 zz203 rfl rfl rfl .nil) rfl (h.retP (by unfold cE; rfl) (by unfold cE; exact zi.2))
attribute [irreducible] cE
def bR (a : Bd) (b : Bd) : Int :=
 bif ((aA a.at_ b.at_) != 0) then
  (aA a.at_ b.at_)
 else
  bif (a.behind == b.behind) then
   0
  else
   bif b.behind then
    (-1)
   else
    1
theorem ii (a : Bd) (b : Bd) (za : SzW 30 a) (zb : SzW 30 b) (w0 : World)  : Calls Tryz.prog 134 #[(vW a), (vW b)] w0 (dZ w0 (.int .i64 (bR a b)) ((-1 ≤ (bR a b) ∧ (bR a b) ≤ 1))) := by
 refine enter (N := 23) (args := [(vW a), (vW b)]) Tryz.func134 rfl rfl ?_; intro ac h
 have p2 := az ((b0 a.at_ b.at_ 10 (by omega) za zb) w0)
 refine dL fun K1 hK1 => ?_
 refine bx h (cW a) rfl rfl rfl fun b1 => gb (cW b) rfl rfl rfl fun b2 => g0 (ag rfl) rfl <| gn hK1 <| gq fun K2 hK2 => gr fun K3 hK3 => g0 (fa uu203 rfl zz53 rfl rfl rfl (k' := 0)) rfl <| g1 1 rfl (aX aa53 zz53 rfl rfl rfl (v := (vR a.at_)) rfl) rfl <| g0 (fa uu203 rfl zz53 rfl rfl rfl (k' := 0)) rfl <| g1 0 rfl (aX aa53 zz53 rfl rfl rfl (v := (vR b.at_)) rfl) rfl <| gc (bK Tryz.call115 rfl) (kk (b0 a.at_ b.at_ 10 (by omega) za zb)) rfl <| g0 (ag rfl) rfl <| gn hK3 <| gr fun K4 hK4 => g0 (ah rfl) rfl <| g0 (fV rfl rfl) rfl <| gn hK4 ?_; clear h ac; intro ac wo h
 refine cr h rfl (fun hc1 => ?_) (fun hc1 => ?_)
 ·
  have hq1 := hc1; try simp at hq1
  refine gz h <| gr fun K5 hK5 => g0 (ah rfl) rfl <| g0 (ag rfl) rfl <| gn hK5 <| gT ?_; clear h ac wo; intro ac wo h
  have hd : bR a b = (aA a.at_ b.at_) := (cT hc1)
  exact ret h rfl (.tmp rfl .nil) rfl (h.retP (by rw [hd] <;> rfl) (by rw [hd]; exact (by first | omega | assumption | grind)))
 ·
  have hq1 := hc1; try simp at hq1
  refine gz h <| gS <| gx hK2 <| gq fun K6 hK6 => gB <| gr fun K7 hK7 => g0 (fa uu203 rfl zz4 rfl rfl rfl (k' := 9)) rfl <| g1 1 rfl (aX aa4 zz4 rfl rfl rfl (v := (.bool a.behind)) rfl) rfl <| g0 (fa uu203 rfl zz4 rfl rfl rfl (k' := 9)) rfl <| g1 0 rfl (aX aa4 zz4 rfl rfl rfl (v := (.bool b.behind)) rfl) rfl <| g0 (r_eqlB Tryz.underlying4 rfl rfl) rfl <| g0 (ag rfl) rfl <| gn hK7 ?_; clear h ac wo; intro ac wo h
  replace h := h.sub (F' := [(3, (ptr b2 0)), (14, (.bool (a.behind == b.behind)))]) ⟨rfl, rfl, trivial⟩
  refine cr h rfl (fun hc2 => ?_) (fun hc2 => ?_)
  ·
   have hd2 := eq_of_beq hc2
   refine gz h <| gr fun K8 hK8 => g0 (ag rfl) rfl <| gn hK8 <| gT ?_; clear h ac wo; intro ac wo h
   have hd : bR a b = 0 := (Eq.trans (cF hc1) (cT hc2))
   exact ret h rfl (.tmp rfl .nil) rfl (h.retP (by rw [hd] <;> rfl) (by rw [hd]; exact (by first | omega | assumption | grind)))
  ·
   have hd2 := ne_of_beq_false hc2
   refine gz h <| gr fun K9 hK9 => g0 (fa uu203 rfl zz4 rfl rfl rfl (k' := 9)) rfl <| g1 0 rfl (aX aa4 zz4 rfl rfl rfl (v := (.bool b.behind)) rfl) rfl <| g0 (ag rfl) rfl <| gn hK9 ?_; clear h ac wo; intro ac wo h
   refine cr h rfl (fun hc3 => ?_) (fun hc3 => ?_)
   ·
    have hq3 := hc3; try simp at hq3
    refine gz h <| gr fun K10 hK10 => g0 (ag rfl) rfl <| gn hK10 <| gT ?_; clear h ac wo; intro ac wo h
    have hd : bR a b = (-1) := (Eq.trans (cF hc1) (Eq.trans (cF hc2) (cT hc3)))
    exact ret h rfl (.tmp rfl .nil) rfl (h.retP (by rw [hd] <;> rfl) (by rw [hd]; exact (by first | omega | assumption | grind)))
   ·
    have hq3 := hc3; try simp at hq3
    refine gz h <| gS <| gN <| gx hK6 <| gr fun K11 hK11 => g0 (ag rfl) rfl <| gn hK11 <| gT ?_; clear h ac wo; intro ac wo h
    have hd : bR a b = 1 := (Eq.trans (cF hc1) (Eq.trans (cF hc2) (cF hc3)))
    exact ret h rfl (.tmp rfl .nil) rfl (h.retP (by rw [hd] <;> rfl) (by rw [hd]; exact (by first | omega | assumption | grind)))
attribute [irreducible] bR
end Go.Sx
namespace Go.Sx
open Go Go.RowKit Go.Proofs
set_option maxRecDepth 100000
set_option maxHeartbeats 40000000
attribute [local irreducible] aA bT ak aH bJ aP aF aE cO bm aw
theorem mP (w : World) : (method (Tryz.prog.types.size + Made.depth) 73 (.agg #[]) "Check").run Tryz.prog w = .ok (304, .agg #[]) w := kT (P := Tryz.prog) (T := 73) Tryz.type73 (by kernel_rfl) uu73 w
def bd (a : GI) : GI × Bool :=
 bif a.neg then
  ((⟨false, 0⟩ : GI), false)
 else
  bif (!(decide ((db (bP a.mag) (bP a.mag)) = a.mag))) then
   ((⟨false, 0⟩ : GI), false)
  else
   ((ay false (bP a.mag)), true)
theorem gG (a : GI) (ha : 0 < a.mag ∧ a.mag < 4) (za : SzI 30 a) (w0 : World)  : Calls Tryz.prog 224 #[(vI a)] w0 (dZ w0 (.tuple #[(vI ((bd a).1)), (.bool ((bd a).2))]) (SzI 28 ((bd a).1))) := by
  refine enter (N := 20) (args := [(vI a)]) Tryz.func224 rfl rfl ?_; intro ac h
  refine dL fun K1 hK1 => ?_
  refine bx h (cI a) rfl rfl rfl fun b1 => ga (cI (⟨false, 0⟩ : GI)) vv38 rfl rfl fun b2 => g0 (ag rfl) rfl <| gn hK1 <| gq fun K2 hK2 => gr fun K3 hK3 => g0 (fa uu38 rfl zz4 rfl rfl rfl (k' := 0)) rfl <| g1 1 rfl (aX aa4 zz4 rfl rfl rfl (v := (.bool a.neg)) rfl) rfl <| gn hK3 ?_; clear h ac; intro ac wo h
  refine cr h rfl (fun hc1 => ?_) (fun hc1 => ?_)
  · skip
    have hq1 := hc1; try simp at hq1
    refine gz h <| gr fun K4 hK4 => g0 (bp mu rfl rfl (v := (vI (⟨false, 0⟩ : GI))) rfl) rfl <| gs 0 (cI (⟨false, 0⟩ : GI)) rfl zz38 rfl rfl rfl rfl rfl rfl rfl <| g0 (ag rfl) rfl <| gn hK4 <| gT ?_; clear h ac wo; intro ac wo h
    have hd : bd a = ((⟨false, 0⟩ : GI), false) := (cT hc1)
    exact ret h rfl (.cell (v := (vI (⟨false, 0⟩ : GI))) rfl (i := 0) rfl aa38 zz38 rfl rfl rfl (.tmp rfl .nil)) rfl (h.retP (by rw [hd] <;> rfl) (by rw [hd]; exact (bZ 0 (by decide) (by omega))))
  · skip
    have hq1 := hc1; try simp at hq1
    have c1 := kZ a.mag ha za
    have s1 := Calls.pr (c1 w0)
    refine gz h <| gS <| gx hK2 <| gr fun K5 hK5 => g0 (fa uu38 rfl zz9 rfl rfl rfl (k' := 1)) rfl <| g1 1 rfl (aX aa9 zz9 rfl rfl rfl (v := (.string (bs a.mag))) rfl) rfl <| gc (bK Tryz.call245 rfl) (kk c1) rfl <| g0 (ag rfl) rfl <| gn hK5 <| gq fun K6 hK6 => gq fun K7 hK7 => ?_; clear h ac wo; intro ac wo h
    have c2 := hH (bP a.mag) (bP a.mag) 28 (by omega) s1 s1
    have s2 := az (c2 w0)
    refine cj mixed [⟨.det (.string (bs (bP a.mag))), []⟩, ⟨.det (.string (bs (bP a.mag))), []⟩, ⟨.det (.string (bs (db (bP a.mag) (bP a.mag)))), []⟩, ⟨.det (ptr b1 1), []⟩, ⟨.det (.string (bs a.mag)), [1]⟩, ⟨.det (.bool (!(decide ((db (bP a.mag) (bP a.mag)) = a.mag)))), []⟩] [⟨.blk b2 (cI (⟨false, 0⟩ : GI)) 38, []⟩, ⟨.blk b1 (cI a) 38, []⟩] h rfl (by kernel_rfl) ⟨?_, ?_, ?_, ?_, ?_, ?_, trivial⟩ ?_
    · intro ξ hφ; exact ax (ah rfl)
    · intro ξ hφ; exact ax (ah rfl)
    · intro ξ hφ; exact dU (dS (bK Tryz.call189 rfl) (kk c2))
    · intro ξ hφ; exact ax (fa uu38 rfl zz9 rfl rfl rfl (k' := 1))
    · intro ξ hφ; exact cq [.blk b1 (cI a) 38] rfl rfl (aX aa9 zz9 rfl rfl rfl (v := (.string (bs a.mag))) rfl)
    · intro ξ hφ; exact ax (kR rfl rfl (m := (db (bP a.mag) (bP a.mag))) (n := a.mag))
    clear h ac wo; intro ξ ac wo hφ h
    replace h : St w0 20 [(2, (ptr b2 0)), (4, (.string (bs (bP a.mag)))), (16, (.bool (!(decide ((db (bP a.mag) (bP a.mag)) = a.mag)))))] [.blk b2 (cI (⟨false, 0⟩ : GI)) 38, .blk b1 (cI a) 38] ac wo := (h.pick [0, 1] (by decide)).sub ⟨rfl, rfl, rfl, trivial⟩
    clear hφ ξ
    refine hK7 _ _ ?_
    refine cr h rfl (fun hc2 => ?_) (fun hc2 => ?_)
    · skip
      have hq2 := hc2; try simp at hq2
      refine gz h <| gr fun K8 hK8 => g0 (bp mu rfl rfl (v := (vI (⟨false, 0⟩ : GI))) rfl) rfl <| gs 0 (cI (⟨false, 0⟩ : GI)) rfl zz38 rfl rfl rfl rfl rfl rfl rfl <| g0 (ag rfl) rfl <| gn hK8 <| gT ?_; clear h ac wo; intro ac wo h
      have hd : bd a = ((⟨false, 0⟩ : GI), false) := (Eq.trans (cF hc1) (cT hc2))
      exact ret h rfl (.cell (v := (vI (⟨false, 0⟩ : GI))) rfl (i := 0) rfl aa38 zz38 rfl rfl rfl (.tmp rfl .nil)) rfl (h.retP (by rw [hd] <;> rfl) (by rw [hd]; exact (bZ 0 (by decide) (by omega))))
    · skip
      have hq2 := hc2; try simp at hq2
      have c3 := bN false (bP a.mag) 29 (by omega) s1
      have s3 := az (c3 w0)
      refine gz h <| gS <| gx hK6 <| gr fun K9 hK9 => g0 (ah rfl) rfl <| gc (bK Tryz.call172 rfl) (kk c3) rfl <| gs 0 (cI (ay false (bP a.mag))) rfl zz38 rfl rfl rfl rfl rfl rfl rfl <| g0 (ag rfl) rfl <| gn hK9 <| gT ?_; clear h ac wo; intro ac wo h
      have hd : bd a = ((ay false (bP a.mag)), true) := (Eq.trans (cF hc1) (cF hc2))
      exact ret h rfl (.cell (v := (vI (ay false (bP a.mag)))) rfl (i := 0) rfl aa38 zz38 rfl rfl rfl (.tmp rfl .nil)) rfl (h.retP (by rw [hd] <;> rfl) (by rw [hd]; exact (im s3 (by omega))))
attribute [irreducible] bd
def ef (a : GQ) : GQ × Bool :=
 bif ((!(bd a.num).2) || (!(bd (aC a)).2)) then
  ((⟨(⟨false, 0⟩ : GI), (⟨false, 0⟩ : GI)⟩ : GQ), false)
 else
  ((be ((bd a.num).1) ((bd (aC a)).1)), true)
theorem kr (a : GQ) (ha : a.num.mag = 2 ∧ a.den = ⟨false, 0⟩) (za : SzQ 30 a) (w0 : World)  : Calls Tryz.prog 196 #[(vQ a)] w0 (dZ w0 (.tuple #[(vQ ((ef a).1)), (.bool ((ef a).2))]) (SzQ 20 ((ef a).1))) := by
 refine enter (N := 30) (args := [(vQ a)]) Tryz.func196 rfl rfl ?_; intro ac h
 have c1 := gG a.num (by omega) za.1
 have s1 := Calls.pr (c1 w0)
 have c2 := cd a 30 (by omega) za
 have s2 := az (c2 w0)
 have c3 := gG (aC a) (qC ha.2) s2
 have s3 := Calls.pr (c3 w0)
 refine dL fun K1 hK1 => ?_
 refine bx h (cQ a) rfl rfl rfl fun b1 => ga (cQ oQ) vv40 rfl rfl fun b2 => g0 (ag rfl) rfl <| gn hK1 <| gr fun K2 hK2 => g0 (fa uu40 rfl zz38 rfl rfl rfl (k' := 0)) rfl <| g1 1 rfl (aX aa38 zz38 rfl rfl rfl (v := (vI a.num)) rfl) rfl <| gc (bK Tryz.call224 rfl) (kk c1) rfl <| g0 (ah rfl) rfl <| g0 (bh rfl rfl) rfl <| g0 (bh rfl rfl) rfl <| ga (cI (⟨false, 0⟩ : GI)) vv38 rfl rfl fun b3 => gs 0 (cI ((bd a.num).1)) rfl zz38 rfl rfl rfl rfl rfl rfl rfl <| g0 (ag rfl) rfl <| gn hK2 <| gr fun K3 hK3 => g1 2 rfl (aX aa40 zz40 rfl rfl rfl (v := (vQ a)) rfl) rfl <| gc (bK Tryz.call159 rfl) (kk c2) rfl <| gc (bK Tryz.call224 rfl) (kk c3) rfl <| g0 (ah rfl) rfl <| g0 (bh rfl rfl) rfl <| g0 (bh rfl rfl) rfl <| ga (cI (⟨false, 0⟩ : GI)) vv38 rfl rfl fun b4 => gs 0 (cI ((bd (aC a)).1)) rfl zz38 rfl rfl rfl rfl rfl rfl rfl <| g0 (ag rfl) rfl <| gn hK3 ?_; clear h ac; intro ac wo h
 replace h := h.sub (F' := [(2, (ptr b2 0)), (4, (ptr b3 0)), (5, (.bool ((bd a.num).2))), (6, (ptr b4 0)), (7, (.bool ((bd (aC a)).2)))]) ⟨rfl, rfl, rfl, rfl, rfl, trivial⟩
 refine gz h <| gq fun K4 hK4 => gr fun K5 hK5 => g0 (ah rfl) rfl <| g0 (ex rfl) rfl <| g0 (ah rfl) rfl <| ge2 rfl rfl (fun hg => (Rd.of_nil (ah rfl)).step) rfl <| ge2 rfl rfl (fun hg => (Rd.of_nil (ex (ar rfl hg))).step) rfl <| g0 (nr rfl (fun e => (ar rfl (ns e)))) rfl <| gn hK5 ?_; clear h ac wo; intro ac wo h
 refine cr h rfl (fun hc1 => ?_) (fun hc1 => ?_)
 ·
  have hq1 := hc1; try simp at hq1
  refine gz h <| gr fun K6 hK6 => g0 (bp lx rfl rfl (v := (vQ oQ)) rfl) rfl <| gs 2 (cQ oQ) rfl zz40 rfl rfl rfl rfl rfl rfl rfl <| g0 (ag rfl) rfl <| gn hK6 <| gT ?_; clear h ac wo; intro ac wo h
  have hd : ef a = (oQ, false) := (cT hc1)
  exact ret h rfl (.cell (v := (vQ oQ)) rfl (i := 2) rfl aa40 zz40 rfl rfl rfl (.tmp rfl .nil)) rfl (h.retP (by rw [hd] <;> rfl) (by rw [hd]; exact ⟨(bZ 0 (by decide) (by omega)), (bZ 0 (by decide) (by omega))⟩))
 ·
  have hq1 := hc1; try simp at hq1
  have c4 := dN ((bd a.num).1) ((bd (aC a)).1) 27 (by omega) s1 s3
  have s4 := az (c4 w0)
  refine gz h <| gS <| gx hK4 <| gr fun K7 hK7 => g1 1 rfl (aX aa38 zz38 rfl rfl rfl (v := (vI ((bd a.num).1))) rfl) rfl <| g1 0 rfl (aX aa38 zz38 rfl rfl rfl (v := (vI ((bd (aC a)).1))) rfl) rfl <| gc (bK Tryz.call157 rfl) (kk c4) rfl <| gs 2 (cQ (be ((bd a.num).1) ((bd (aC a)).1))) rfl zz40 rfl rfl rfl rfl rfl rfl rfl <| g0 (ag rfl) rfl <| gn hK7 <| gT ?_; clear h ac wo; intro ac wo h
  have hd : ef a = ((be ((bd a.num).1) ((bd (aC a)).1)), true) := (cF hc1)
  exact ret h rfl (.cell (v := (vQ (be ((bd a.num).1) ((bd (aC a)).1)))) rfl (i := 2) rfl aa40 zz40 rfl rfl rfl (.tmp rfl .nil)) rfl (h.retP (by rw [hd] <;> rfl) (by rw [hd]; exact (d8 s4 (by omega))))
attribute [irreducible] ef
def dB (x : GR) : Int :=
 bif (((cA x.p) != 0) || ((cA x.r) != 0)) then
  5
 else
  bif ((aH x.r) == (-1)) then
   5
  else
   bif ((aH x.r) == 0) then
    bif x.neg then
     5
    else
     0
   else
    bif (ef x.r).2 then
     5
    else
     0
theorem jC (x : GR) (hr : RtR x) (zx : SzR 30 x) (w0 : World)  : Calls Tryz.prog 171 #[(vR x)] w0 (dZ w0 (.int .i64 (dB x)) (True)) := by
 refine enter (N := 31) (args := [(vR x)]) Tryz.func171 rfl rfl ?_; intro ac h
 refine dL fun K1 hK1 => ?_
 refine bx h (cR x) rfl rfl rfl fun b1 => g0 (ag rfl) rfl <| gn hK1 <| gq fun K2 hK2 => gr fun K3 hK3 => g0 (fa uu53 rfl zz40 rfl rfl rfl (k' := 0)) rfl <| g1 0 rfl (aX aa40 zz40 rfl rfl rfl (v := (vQ x.p)) rfl) rfl <| gc (bK cc104 rfl) (kk (fE x.p (d8 zx.1 (by omega)))) rfl <| g0 (fV rfl rfl) rfl <| g0 (ah rfl) rfl <| ge2 rfl rfl (fun hg => (Rd.of_nil (fa uu53 rfl zz40 rfl rfl rfl (k' := 4))).step) rfl <| ge2 rfl rfl (fun hg => (Rd.of_mem (i := 0) (aX aa40 zz40 (ar rfl hg) rfl rfl (v := (vQ x.r)) rfl) rfl).step) rfl <| ge2 rfl rfl (fun hg => dS (bK cc104 (bB (ar rfl hg) rfl)) (kk (fE x.r (d8 zx.2 (by omega))))) rfl <| ge2 rfl rfl (fun hg => (Rd.of_nil (fV (ar rfl hg) rfl)).step) rfl <| g0 (nr rfl (fun e => (ar rfl (ns e)))) rfl <| gn hK3 ?_; clear h ac; intro ac wo h
 refine cr h rfl (fun hc1 => ?_) (fun hc1 => ?_)
 ·
  have hq1 := hc1; try simp at hq1
  refine gz h <| gr fun K4 hK4 => g0 (ag rfl) rfl <| gn hK4 <| gT ?_; clear h ac wo; intro ac wo h
  have hd : dB x = 5 := (cT hc1)
  exact ret h rfl (.tmp rfl .nil) rfl (h.retP (by rw [hd] <;> rfl) trivial)
 ·
  have hq1 := hc1; try simp at hq1
  have p2 := az ((cw x.r) w0)
  refine gz h <| gS <| gx hK2 <| gq fun K5 hK5 => gr fun K6 hK6 => g0 (fa uu53 rfl zz40 rfl rfl rfl (k' := 4)) rfl <| g1 0 rfl (aX aa40 zz40 rfl rfl rfl (v := (vQ x.r)) rfl) rfl <| gc (bK Tryz.call58 rfl) (kk (cw x.r)) rfl <| gn hK6 <| gB <| gr fun K7 hK7 => g0 (dP rfl rfl) rfl <| g0 (ag rfl) rfl <| gn hK7 ?_; clear h ac wo; intro ac wo h
  replace h := h.sub (F' := [(1, (ptr b1 0)), (17, (.int .i64 (aH x.r))), (18, (.bool ((aH x.r) == (-1))))]) ⟨rfl, rfl, rfl, trivial⟩
  refine cr h rfl (fun hc2 => ?_) (fun hc2 => ?_)
  ·
   have hd2 := eq_of_beq hc2
   refine gz h <| gr fun K8 hK8 => g0 (ag rfl) rfl <| gn hK8 <| gT ?_; clear h ac wo; intro ac wo h
   have hd : dB x = 5 := (Eq.trans (cF hc1) (cT hc2))
   exact ret h rfl (.tmp rfl .nil) rfl (h.retP (by rw [hd] <;> rfl) trivial)
  ·
   have hd2 := ne_of_beq_false hc2
   refine gz h <| gr fun K9 hK9 => g0 (dP rfl rfl) rfl <| g0 (ag rfl) rfl <| gn hK9 ?_; clear h ac wo; intro ac wo h
   refine cr h rfl (fun hc3 => ?_) (fun hc3 => ?_)
   ·
    have hd3 := eq_of_beq hc3
    refine gz h <| gq fun K10 hK10 => gr fun K11 hK11 => g0 (fa uu53 rfl zz4 rfl rfl rfl (k' := 8)) rfl <| g1 0 rfl (aX aa4 zz4 rfl rfl rfl (v := (.bool x.neg)) rfl) rfl <| gn hK11 ?_; clear h ac wo; intro ac wo h
    refine cr h rfl (fun hc4 => ?_) (fun hc4 => ?_)
    ·
     have hq4 := hc4; try simp at hq4
     refine gz h <| gr fun K12 hK12 => g0 (ag rfl) rfl <| gn hK12 <| gT ?_; clear h ac wo; intro ac wo h
     have hd : dB x = 5 := (Eq.trans (cF hc1) (Eq.trans (cF hc2) (Eq.trans (cT hc3) (cT hc4))))
     exact ret h rfl (.tmp rfl .nil) rfl (h.retP (by rw [hd] <;> rfl) trivial)
    ·
     have hq4 := hc4; try simp at hq4
     refine gz h <| gS <| gx hK10 <| gr fun K13 hK13 => g0 (ag rfl) rfl <| gn hK13 <| gT ?_; clear h ac wo; intro ac wo h
     have hd : dB x = 0 := (Eq.trans (cF hc1) (Eq.trans (cF hc2) (Eq.trans (cT hc3) (cF hc4))))
     exact ret h rfl (.tmp rfl .nil) rfl (h.retP (by rw [hd] <;> rfl) trivial)
   ·
    have hd3 := ne_of_beq_false hc3
    have c3 := kr x.r (root_pre hr (by assumption)) zx.2
    have s3 := Calls.pr (c3 w0)
    refine gz h <| gS <| gN <| gx hK5 <| gq fun K14 hK14 => gr fun K15 hK15 => g0 (fa uu53 rfl zz40 rfl rfl rfl (k' := 4)) rfl <| g1 0 rfl (aX aa40 zz40 rfl rfl rfl (v := (vQ x.r)) rfl) rfl <| gc (bK Tryz.call196 rfl) (kk c3) rfl <| g0 (ah rfl) rfl <| g0 (bh rfl rfl) rfl <| g0 (bh rfl rfl) rfl <| ga (cQ oQ) vv40 rfl rfl fun b2 => gs 0 (cQ ((ef x.r).1)) rfl zz40 rfl rfl rfl rfl rfl rfl rfl <| g0 (ag rfl) rfl <| gn hK15 <| gr fun K16 hK16 => g0 (ah rfl) rfl <| gn hK16 ?_; clear h ac wo; intro ac wo h
    refine cr h rfl (fun hc5 => ?_) (fun hc5 => ?_)
    ·
     have hq5 := hc5; try simp at hq5
     refine gz h <| gr fun K17 hK17 => g0 (ag rfl) rfl <| gn hK17 <| gT ?_; clear h ac wo; intro ac wo h
     have hd : dB x = 5 := (Eq.trans (cF hc1) (Eq.trans (cF hc2) (Eq.trans (cF hc3) (cT hc5))))
     exact ret h rfl (.tmp rfl .nil) rfl (h.retP (by rw [hd] <;> rfl) trivial)
    ·
     have hq5 := hc5; try simp at hq5
     refine gz h <| gS <| gx hK14 <| gr fun K18 hK18 => g0 (ag rfl) rfl <| gn hK18 <| gT ?_; clear h ac wo; intro ac wo h
     have hd : dB x = 0 := (Eq.trans (cF hc1) (Eq.trans (cF hc2) (Eq.trans (cF hc3) (cF hc5))))
     exact ret h rfl (.tmp rfl .nil) rfl (h.retP (by rw [hd] <;> rfl) trivial)
attribute [irreducible] dB
def aR (i : Iv) : Int :=
 bif (((dB i.lo) != 0) || ((dB i.hi) != 0)) then
  5
 else
  bif (decide ((bR (co i) (cE i)) ≥ 0)) then
   10
  else
   0
theorem ft (i : Iv) (hv : RtV i) (zi : SzV 30 i) (w0 : World)  : Calls Tryz.prog 110 #[(vV i)] w0 (dZ w0 (.int .i64 (aR i)) (True)) := by
  refine enter (N := 19) (args := [(vV i)]) Tryz.func110 rfl rfl ?_; intro ac h
  refine dL fun K1 hK1 => ?_
  refine bx h (cV i) rfl rfl rfl fun b1 => g0 (ag rfl) rfl <| gn hK1 <| gq fun K2 hK2 => gr fun K3 hK3 => g0 (fa uu55 rfl zz53 rfl rfl rfl (k' := 0)) rfl <| g1 0 rfl (aX aa53 zz53 rfl rfl rfl (v := (vR i.lo)) rfl) rfl <| gc (bK Tryz.call171 rfl) (kk (jC i.lo hv.1 zi.1)) rfl <| g0 (fV rfl rfl) rfl <| g0 (ah rfl) rfl <| ge2 rfl rfl (fun hg => (Rd.of_nil (fa uu55 rfl zz53 rfl rfl rfl (k' := 9))).step) rfl <| ge2 rfl rfl (fun hg => (Rd.of_mem (i := 0) (aX aa53 zz53 (ar rfl hg) rfl rfl (v := (vR i.hi)) rfl) rfl).step) rfl <| ge2 rfl rfl (fun hg => dS (bK Tryz.call171 (bB (ar rfl hg) rfl)) (kk (jC i.hi hv.2 zi.2))) rfl <| ge2 rfl rfl (fun hg => (Rd.of_nil (fV (ar rfl hg) rfl)).step) rfl <| g0 (nr rfl (fun e => (ar rfl (ns e)))) rfl <| gn hK3 ?_; clear h ac; intro ac wo h
  refine cr h rfl (fun hc1 => ?_) (fun hc1 => ?_)
  · skip
    have hq1 := hc1; try simp at hq1
    refine gz h <| gr fun K4 hK4 => g0 (ag rfl) rfl <| gn hK4 <| gT ?_; clear h ac wo; intro ac wo h
    have hd : aR i = 5 := (cT hc1)
    exact ret h rfl (.tmp rfl .nil) rfl (h.retP (by rw [hd] <;> rfl) trivial)
  · skip
    have hq1 := hc1; try simp at hq1
    refine dF ?_
    refine hK2 _ _ ?_
    refine dg fun K5 hK5 => ?_
    refine dg fun K6 hK6 => ?_
    have s1 := Calls.pr ((fun w_ hB_ hS_ => iR i zi w_ ) _ h.bel h.sep)
    have s2 := Calls.pr ((fun w_ hB_ hS_ => jh i zi w_ ) _ h.bel h.sep)
    have s3 := Calls.pr ((fun w_ hB_ hS_ => ii (co i) (cE i) s1 s2 w_ ) _ h.bel h.sep)
    have p4 := s3
    refine cj mixed [⟨.det (vV i), [0]⟩, ⟨.det (vW (co i)), []⟩, ⟨.det (vV i), [0]⟩, ⟨.det (vW (cE i)), []⟩, ⟨.det (.int .i64 (bR (co i) (cE i))), []⟩, ⟨.det (.bool (decide ((bR (co i) (cE i)) ≥ 0))), []⟩] [⟨.blk b1 (cV i) 55, []⟩] h rfl (by kernel_rfl) ⟨?_, ?_, ?_, ?_, ?_, ?_, trivial⟩ ?_
    · intro ξ hφ; exact cq [.blk b1 (cV i) 55] rfl rfl (aX aa55 zz55 rfl rfl rfl (v := (vV i)) rfl)
    · intro ξ hφ; exact dU (dS (vs := [(vV i)]) (bK Tryz.call136 rfl) (fun w_ hB_ hS_ => iR i zi w_ ))
    · intro ξ hφ; exact cq [.blk b1 (cV i) 55] rfl rfl (aX aa55 zz55 rfl rfl rfl (v := (vV i)) rfl)
    · intro ξ hφ; exact dU (dS (bK Tryz.call135 rfl) (kk (jh i zi)))
    · intro ξ hφ; exact dU (dS (bK Tryz.call134 rfl) (kk (ii (co i) (cE i) s1 s2)))
    · intro ξ hφ; exact ax (lV rfl rfl)
    clear h ac wo; intro ξ ac wo hφ h
    replace h : St w0 19 [(18, (.bool (decide ((bR (co i) (cE i)) ≥ 0))))] [.blk b1 (cV i) 55] ac wo := (h.pick [0] (by decide)).sub ⟨rfl, trivial⟩
    clear hφ ξ
    refine hK6 _ _ ?_
    refine cr h rfl (fun hc2 => ?_) (fun hc2 => ?_)
    · skip
      have hd2 := of_decide_eq_true hc2
      refine gz h <| gr fun K7 hK7 => g0 (ag rfl) rfl <| gn hK7 <| gT ?_; clear h ac wo; intro ac wo h
      have hd : aR i = 10 := (Eq.trans (cF hc1) (cT hc2))
      exact ret h rfl (.tmp rfl .nil) rfl (h.retP (by rw [hd] <;> rfl) trivial)
    · skip
      have hd2 := of_decide_eq_false hc2
      refine gz h <| gS <| gx hK5 <| gr fun K8 hK8 => g0 (ag rfl) rfl <| gn hK8 <| gT ?_; clear h ac wo; intro ac wo h
      have hd : aR i = 0 := (Eq.trans (cF hc1) (cF hc2))
      exact ret h rfl (.tmp rfl .nil) rfl (h.retP (by rw [hd] <;> rfl) trivial)
attribute [irreducible] aR
def ey (l : List (U Qd)) (x16 : Nat) : Int :=
 bif ((((aZ l).2) != 0) || (!(cY l ((aZ l).1)))) then
  5
 else
  0
def bf (l : List (U Qd)) (x16 : Nat) : Nx Nat Int :=
 bif (decide (((x16 : Nat) : Int) < ((l.length : Nat) : Int))) then
  bif ((aR ((gt l x16).iv)) != 0) then
   .ret (aR ((gt l x16).iv))
  else
   bif ((bX ((gt l x16).f)) != 0) then
    .ret (bX ((gt l x16).f))
   else
    bif ((decide (((x16 : Nat) : Int) > 0)) && (!(bm ((gt l (x16 - 1)).iv) ((gt l x16).iv)))) then
     .ret 7
    else
     .go (x16 + 1)
 else
  .out x16
def aN (l : List (U Qd)) : Int :=
 bif (decide (((l.length : Nat) : Int) > 256)) then
  3
 else
  fin (bS (fun s => bf l s) ((l.length - 0) + 1) 0) (fun s => ey l s) (fun r => r)
theorem cu (l : List (U Qd)) (lv : Value) (hl : l.length < 20) (hv : ∀ j, RtV (gt l j).iv) (zl : All (gM 30) l) (w0 : World) (hlv : View w0 lv l) : Calls Tryz.prog 43 #[(.iface 73 (.agg #[])), lv] w0 (dZ w0 (.int .i64 (aN l)) (True)) := by
 refine enter (N := 64) (args := [(.iface 73 (.agg #[])), lv]) Tryz.func43 rfl rfl ?_; intro ac h
 have hlenl := hlv.len
 refine dL fun K1 hK1 => ?_
 refine rd0 h (ag rfl) rfl <| gn hK1 <| gq fun K2 hK2 => gr fun K3 hK3 => g0 (ah rfl) rfl <| g0 (dk uu24 rfl hlv.sl) rfl <| g0 (jD rfl rfl) rfl <| gn hK3 ?_; clear h ac; intro ac wo h
 refine cr h rfl (fun hc1 => ?_) (fun hc1 => ?_)
 ·
  have hd1 := of_decide_eq_true hc1
  refine gz h <| gr fun K4 hK4 => g0 (ag rfl) rfl <| gn hK4 <| gT ?_; clear h ac wo; intro ac wo h
  have hd : aN l = 3 := (cT hc1)
  exact ret h rfl (.tmp rfl .nil) rfl (h.retP (by rw [hd] <;> rfl) trivial)
 ·
  have hd1 := of_decide_eq_false hc1
  refine gz h <| gS <| gx hK2 <| gq fun K5 hK5 => gr fun K6 hK6 => g0 (ah rfl) rfl <| g0 (dk uu24 rfl hlv.sl) rfl <| g0 (ah rfl) rfl <| gn hK6 <| gB ?_; clear h ac wo; intro ac wo h
  obtain ⟨X1, hX1⟩ : ∃ X, bS (fun s => bf l s) ((l.length - 0) + 1) 0 = X := ⟨_, rfl⟩
  refine wp_loop_ghost (fun n_ a_ w_ => ∃ (x16 : Nat), ((l.length - x16) < n_) ∧ (bS (fun s => bf l s) n_ x16 = X1) ∧ (x16 ≤ l.length) ∧ St w0 64 [(0, (.iface 73 (.agg #[]))), (1, lv), (14, lv), (15, (.int .i64 ((l.length : Nat) : Int))), (16, (.int .i64 ((x16 : Nat) : Int)))] [] a_ w_) ((l.length - 0) + 1) ⟨0, (by omega), hX1, (by first | omega | assumption | grind), (h.sub ⟨rfl, rfl, rfl, rfl, rfl, trivial⟩)⟩ ?_
  clear h ac wo; rintro n1 ac wo ⟨x16, hm1, hL1, hx16, h⟩
  obtain ⟨m1, rfl⟩ : ∃ m, n1 = m + 1 := ⟨n1 - 1, by omega⟩
  refine gz h <| gr fun K7 hK7 => g0 (dJ rfl rfl) rfl <| gn hK7 <| gq fun K8 hK8 => ?_; clear h ac wo; intro ac wo h
  refine cr h rfl (fun hc2 => ?_) (fun hc2 => ?_)
  ·
   have hd2 := of_decide_eq_true hc2
   refine gz h <| gS <| gx hK8 <| gq fun K9 hK9 => gB <| gr fun K10 hK10 => g0 (ah rfl) rfl <| g0 (da (i := x16) uu24 zz87 rfl rfl (hlv.nn (i := x16) (by first | omega | assumption | grind)) (by first | omega | assumption | grind)) rfl <| g0 (eC (k := 0) aa87 zz87 hlv (bF (by first | omega | assumption | grind)) rfl (Nat.add_zero _) rfl rfl (v := (vUD (gt l x16))) rfl) rfl <| ga (cUD (⟨(⟨(⟨oQ, oQ, false⟩ : GR), (⟨oQ, oQ, false⟩ : GR), false, false⟩ : Iv), oD⟩ : U Qd)) vv87 rfl rfl fun b1 => g0 (ag rfl) rfl <| gs 0 (cUD (gt l x16)) rfl zz87 rfl rfl rfl rfl rfl rfl rfl <| gn hK10 <| gq fun K11 hK11 => gr fun K12 hK12 => g0 (fa uu87 rfl zz55 rfl rfl rfl (k' := 0)) rfl <| g1 0 rfl (aX aa55 zz55 rfl rfl rfl (v := (vV ((gt l x16).iv))) rfl) rfl <| gc (bK Tryz.call110 rfl) (kk (ft ((gt l x16).iv) (hv _) (All.gt zl (aV _)).1)) rfl <| g0 (ag rfl) rfl <| gn hK12 <| gr fun K13 hK13 => g0 (ah rfl) rfl <| g0 (fV rfl rfl) rfl <| gn hK13 ?_; clear h ac wo; intro ac wo h
   refine cr h rfl (fun hc3 => ?_) (fun hc3 => ?_)
   ·
    have hq3 := hc3; try simp at hq3
    refine gz h <| gr fun K14 hK14 => g0 (ah rfl) rfl <| g0 (ag rfl) rfl <| gn hK14 ?_; clear h ac wo; intro ac wo h
    replace h := h.sub (F' := [(4, (.int .i64 (aR ((gt l x16).iv))))]) ⟨rfl, trivial⟩
    refine e8 ?_
    have hr1 := eO hL1 (show bf l x16 = .ret (aR ((gt l x16).iv)) from (Eq.trans (cT hc2) (cT hc3)))
    have hd : aN l = (aR ((gt l x16).iv)) := (Eq.trans (cF hc1) (je (hX1.trans hr1)))
    exact ret h rfl (.tmp rfl .nil) rfl (h.retP (by rw [hd] <;> rfl) trivial)
   ·
    have hq3 := hc3; try simp at hq3
    refine gz h <| gS <| gx hK11 <| gq fun K15 hK15 => gr fun K16 hK16 => g0 (ah rfl) rfl <| g0 (fa uu87 rfl zz69 rfl rfl rfl (k' := 20)) rfl <| g1 0 rfl (aX aa69 zz69 rfl rfl rfl (v := (vD ((gt l x16).f))) rfl) rfl <| gc (jf mP Tryz.call304 rfl rfl) (kk (iP ((gt l x16).f) (All.gt zl (aV _)).2)) rfl <| g0 (ag rfl) rfl <| gn hK16 <| gr fun K17 hK17 => g0 (ah rfl) rfl <| g0 (fV rfl rfl) rfl <| gn hK17 ?_; clear h ac wo; intro ac wo h
    replace h := h.sub (F' := [(0, (.iface 73 (.agg #[]))), (1, lv), (14, lv), (15, (.int .i64 ((l.length : Nat) : Int))), (16, (.int .i64 ((x16 : Nat) : Int))), (6, (ptr b1 0)), (5, (.int .i64 ((x16 : Nat) : Int))), (8, (.int .i64 (bX ((gt l x16).f)))), (32, (.bool ((bX ((gt l x16).f)) != 0)))]) ⟨rfl, rfl, rfl, rfl, rfl, rfl, rfl, rfl, rfl, trivial⟩
    refine cr h rfl (fun hc4 => ?_) (fun hc4 => ?_)
    ·
     have hq4 := hc4; try simp at hq4
     refine gz h <| gr fun K18 hK18 => g0 (ah rfl) rfl <| g0 (ag rfl) rfl <| gn hK18 <| gT ?_; clear h ac wo; intro ac wo h
     have hr1 := eO hL1 (show bf l x16 = .ret (bX ((gt l x16).f)) from (Eq.trans (cT hc2) (Eq.trans (cF hc3) (cT hc4))))
     have hd : aN l = (bX ((gt l x16).f)) := (Eq.trans (cF hc1) (je (hX1.trans hr1)))
     exact ret h rfl (.tmp rfl .nil) rfl (h.retP (by rw [hd] <;> rfl) trivial)
    ·
     have hq4 := hc4; try simp at hq4
     refine dF ?_
     refine hK15 _ _ ?_
     refine dg fun K19 hK19 => ?_
     refine cj mixed [dv _, dv _, dv _, dv _, dv _, dv _, dv _, dv _, dv _, dv _, dw _ [0], dv _, dv _, dv _] [⟨_, []⟩] h rfl (by kernel_rfl) ⟨fun _ _ => om rfl, fun _ _ => ax (jD rfl rfl), fun _ _ => om rfl, fun _ _ => oh rfl rfl rfl rfl (fun hg => ah rfl), fun _ _ => oh rfl rfl rfl rfl (fun hg => ah rfl), fun _ _ => oh rfl rfl rfl rfl (fun hg => dD (ar rfl hg) rfl (r := (((x16 - 1) : Nat) : Int)) (by rw [IntKind.wrap_i64]; first | omega | (simp at hg; omega) | grind)), fun _ _ => oh rfl rfl rfl rfl (fun hg => da (i := (x16 - 1)) uu24 zz87 (ar rfl hg) (ar rfl hg) (hlv.nn (i := (x16 - 1)) (by first | omega | (simp at hg; omega) | grind)) (by first | omega | (simp at hg; omega) | grind)), fun _ _ => oh rfl rfl rfl rfl (fun hg => eE uu87 rfl zz55 (by decide) (hlv.nn (i := 0) (by first | omega | (simp at hg; omega) | grind)) (ar rfl hg) rfl (k' := (x16 - 1) * 32 + 0)), fun _ _ => oh rfl rfl rfl rfl (fun hg => eC (k := 0) aa55 zz55 hlv (bF (by first | omega | (simp at hg; omega) | grind)) (ar rfl hg) rfl rfl rfl (v := (vV ((gt l (x16 - 1)).iv))) rfl), fun _ _ => oh rfl rfl rfl rfl (fun hg => mL uu87 rfl zz55 (by decide) rfl rfl (k' := 0)), fun _ _ => oh rfl rfl rfl rfl (fun hg => aX aa55 zz55 (ar rfl hg) rfl rfl (v := (vV ((gt l x16).iv))) rfl), fun _ _ => og1 rfl rfl rfl rfl (fun hg => dS (bK Tryz.call81 (bB (ar rfl hg) (bB (ar rfl hg) rfl))) (kk (iO ((gt l (x16 - 1)).iv) ((gt l x16).iv) 10 (by omega) (All.gt zl (aV _)).1 (All.gt zl (aV _)).1))), fun _ _ => oh rfl rfl rfl rfl (fun hg => ex (ar rfl hg)), fun _ _ => ax (dQ rfl (fun e => (ar rfl e))), trivial⟩ ?_
     clear h ac wo; intro ξ ac wo hφ h
     replace h : St w0 64 [(0, (.iface 73 (.agg #[]))), (1, lv), (14, lv), (15, (.int .i64 ((l.length : Nat) : Int))), (16, (.int .i64 ((x16 : Nat) : Int))), (47, (.bool ((decide (((x16 : Nat) : Int) > 0)) && (!(bm ((gt l (x16 - 1)).iv) ((gt l x16).iv))))))] [.blk b1 (cUD (gt l x16)) 87] ac wo := (h.pick [0] (by decide)).sub ⟨rfl, rfl, rfl, rfl, rfl, rfl, trivial⟩
     clear hφ ξ
     refine hK19 _ _ ?_
     refine cr h rfl (fun hc5 => ?_) (fun hc5 => ?_)
     ·
      have hq5 := hc5; try simp at hq5
      refine gz h <| gr fun K20 hK20 => g0 (ag rfl) rfl <| gn hK20 <| gT ?_; clear h ac wo; intro ac wo h
      have hr1 := eO hL1 (show bf l x16 = .ret 7 from (Eq.trans (cT hc2) (Eq.trans (cF hc3) (Eq.trans (cF hc4) (cT hc5)))))
      have hd : aN l = 7 := (Eq.trans (cF hc1) (je (hX1.trans hr1)))
      exact ret h rfl (.tmp rfl .nil) rfl (h.retP (by rw [hd] <;> rfl) trivial)
     ·
      have hq5 := hc5; try simp at hq5
      refine gz h <| gS <| gN <| gx hK9 <| gR <| g0 (bI rfl rfl (r := ((x16 + 1 : Nat) : Int)) (by rw [IntKind.wrap_i64]; first | omega | grind)) rfl <| g0 (ah rfl) rfl <| gx (fun _ _ => bG) ?_; clear h ac wo; intro ac wo h
      exact aI ⟨m1, (by omega), _, (by first | omega | assumption | grind), bU hL1 (show bf l x16 = .go _ from (Eq.trans (cT hc2) (Eq.trans (cF hc3) (Eq.trans (cF hc4) (cF hc5))))), (by first | omega | assumption | grind), (h.pick [] (by decide)).sub ⟨rfl, rfl, rfl, rfl, rfl, trivial⟩⟩
  ·
   have hd2 := of_decide_eq_false hc2
   refine dX ?_
   have hx1 := dR hL1 (show bf l x16 = .out x16 from (cF hc2))
   refine gz h <| gx hK5 <| gq fun K21 hK21 => gr fun K22 hK22 => g0 (ah rfl) rfl <| g0 (ah rfl) rfl ?_; clear h ac wo; intro ac wo h
   have s1 := RetT.pr ((fun w_ hB_ hS_ => eh l lv (by first | omega | assumption | grind) zl w_ (hlv.below hB_)) _ h.bel h.sep)
   have p2 := s1.2
   refine c_tup (xs := (aZ l).1) h (bK Tryz.call39 rfl) (fun w_ hB_ hS_ => eh l lv (by first | omega | assumption | grind) zl w_ (hlv.below hB_)) rfl ?_; clear h ac wo; intro sv3 ac wo _ h
   refine rd0 h (ah rfl) rfl <| g0 (bh rfl rfl) rfl <| g0 (bh rfl rfl) rfl <| g0 (ag rfl) rfl <| g0 (ag rfl) rfl <| gn hK22 <| gr fun K23 hK23 => g0 (ah rfl) rfl <| g0 (fV rfl rfl) rfl <| g0 (ah rfl) rfl <| ge2 rfl rfl (fun hg => (Rd.of_nil (ah rfl)).step) rfl <| ge2 rfl rfl (fun hg => (Rd.of_nil (ah rfl)).step) rfl <| ge2 rfl rfl (fun hg => (Rd.of_nil (ah rfl)).step) rfl <| ge2 rfl rfl (fun hg => dS (bK Tryz.call44 (bB (ar rfl hg) (bB (ar rfl hg) (bB (ar rfl hg) rfl)))) (fun w_ hB_ hS_ => jc l lv ((aZ l).1) sv3 (All.mono zl (fun _ h_ => mz h_ (by omega))) s1.1 w_ (hlv.below hB_) (row_view hS_ 0 rfl))) rfl <| ge2 rfl rfl (fun hg => (Rd.of_nil (ex (ar rfl hg))).step) rfl <| g0 (nr rfl (fun e => (ar rfl (ns e)))) rfl <| gn hK23 ?_; clear h ac wo; intro ac wo h
   replace h := h.sub (F' := [(63, (.bool ((((aZ l).2) != 0) || (!(cY l ((aZ l).1))))))]) ⟨rfl, trivial⟩
   refine cr h rfl (fun hc6 => ?_) (fun hc6 => ?_)
   ·
    have hq6 := hc6; try simp at hq6
    refine gz h <| gr fun K24 hK24 => g0 (ag rfl) rfl <| gn hK24 <| gT ?_; clear h ac wo; intro ac wo h
    have hd : aN l = 5 := (Eq.trans (cF hc1) (Eq.trans (eW (hX1.trans hx1)) (cT hc6)))
    exact ret h rfl (.tmp rfl .nil) rfl (h.retP (by rw [hd] <;> rfl) trivial)
   ·
    have hq6 := hc6; try simp at hq6
    refine gz h <| gS <| gx hK21 <| gr fun K25 hK25 => g0 (ag rfl) rfl <| gn hK25 <| gT ?_; clear h ac wo; intro ac wo h
    have hd : aN l = 0 := (Eq.trans (cF hc1) (Eq.trans (eW (hX1.trans hx1)) (cF hc6)))
    exact ret h rfl (.tmp rfl .nil) rfl (h.retP (by rw [hd] <;> rfl) trivial)
attribute [irreducible] aN
end Go.Sx
namespace Go.Sx
open Go Go.RowKit Go.Proofs
set_option maxRecDepth 100000
set_option maxHeartbeats 40000000
attribute [local irreducible] aA bT ak aH bJ aP aF aE cO bm aw
def jr (u : List (U Qd)) (i : Nat) : Int :=
 bif (!(b9 (aa u) u)) then
  5
 else
  0
def dT (u : List (U Qd)) (i : Nat) : Nx Nat Int :=
 bif (decide (((i : Nat) : Int) < ((u.length : Nat) : Int))) then
  bif ((aR ((gt u i).iv)) != 0) then
   .ret (aR ((gt u i).iv))
  else
   bif ((cP ((gt u i).f)) != 0) then
    .ret (cP ((gt u i).f))
   else
    bif ((((i : Nat) : Int)) == (((0 : Nat) : Int))) then
     .go (i + 1)
    else
     bif ((decide ((aA (((gt u (i - 1)).iv).hi) (((gt u i).iv).lo)) > 0)) || ((((aA (((gt u (i - 1)).iv).hi) (((gt u i).iv).lo)) == 0) && (!((gt u (i - 1)).iv).openHi)) && (!((gt u i).iv).openLo))) then
      .ret 7
     else
      .go (i + 1)
 else
  .out i
def de (u : List (U Qd)) : Int :=
 fin (bS (fun s => dT u s) ((u.length - 0) + 1) 0) (fun s => jr u s) (fun r => r)
theorem eU (u : List (U Qd)) (uv : Value) (hl : u.length < 20) (hv : ∀ j, RtV (gt u j).iv) (zu : All (gM 30) u) (w0 : World) (huv : View w0 uv u) : Calls Tryz.prog 46 #[uv] w0 (dZ w0 (.int .i64 (de u)) (True)) := by
 refine enter (N := 76) (args := [uv]) Tryz.func46 rfl rfl ?_; intro ac h
 have hlenu := huv.len
 refine dL fun K1 hK1 => ?_
 refine rd0 h (ag rfl) rfl <| gn hK1 <| gq fun K2 hK2 => gr fun K3 hK3 => g0 (ag rfl) rfl <| gn hK3 <| gB ?_; clear h ac; intro ac wo h
 obtain ⟨X1, hX1⟩ : ∃ X, bS (fun s => dT u s) ((u.length - 0) + 1) 0 = X := ⟨_, rfl⟩
 refine wp_loop_ghost (fun n_ a_ w_ => ∃ (i : Nat), ((u.length - i) < n_) ∧ (bS (fun s => dT u s) n_ i = X1) ∧ (i ≤ u.length) ∧ St w0 76 [(0, uv), (3, (.int .i64 ((i : Nat) : Int)))] [] a_ w_) ((u.length - 0) + 1) ⟨0, (by omega), hX1, (by first | omega | grind), (h.sub ⟨rfl, rfl, trivial⟩)⟩ ?_
 clear h ac wo; rintro n1 ac wo ⟨i, hm1, hL1, hi, h⟩
 obtain ⟨m1, rfl⟩ : ∃ m, n1 = m + 1 := ⟨n1 - 1, by omega⟩
 refine gz h <| gq fun K4 hK4 => gr fun K5 hK5 => g0 (ah rfl) rfl <| g0 (ah rfl) rfl <| g0 (dk uu24 rfl huv.sl) rfl <| g0 (dJ rfl rfl) rfl <| gn hK5 ?_; clear h ac wo; intro ac wo h
 refine cr h rfl (fun hc1 => ?_) (fun hc1 => ?_)
 ·
  have hd1 := of_decide_eq_true hc1
  refine gz h <| gS <| gx hK4 <| gq fun K6 hK6 => gB <| gq fun K7 hK7 => gr fun K8 hK8 => g0 (ah rfl) rfl <| g0 (ah rfl) rfl <| g0 (da (i := i) uu24 zz87 rfl rfl (huv.nn (i := i) (by first | omega | grind)) (by first | omega | grind)) rfl <| g0 (fs uu87 rfl zz55 rfl (huv.nn (i := 0) (by first | omega | grind)) rfl rfl (k' := i * 32 + 0)) rfl <| g0 (eC (k := 0) aa55 zz55 huv (bF (by first | omega | grind)) rfl rfl rfl rfl (v := (vV ((gt u i).iv))) rfl) rfl <| gc (bK Tryz.call110 rfl) (kk (ft ((gt u i).iv) (hv _) (All.gt zu (aV _)).1)) rfl <| g0 (ag rfl) rfl <| gn hK8 <| gr fun K9 hK9 => g0 (ah rfl) rfl <| g0 (fV rfl rfl) rfl <| gn hK9 ?_; clear h ac wo; intro ac wo h
  refine cr h rfl (fun hc2 => ?_) (fun hc2 => ?_)
  ·
   have hq2 := hc2; try simp at hq2
   refine gz h <| gr fun K10 hK10 => g0 (ah rfl) rfl <| g0 (ag rfl) rfl <| gn hK10 ?_; clear h ac wo; intro ac wo h
   replace h := h.sub (F' := [(2, (.int .i64 (aR ((gt u i).iv))))]) ⟨rfl, trivial⟩
   refine e8 ?_
   have hr1 := eO hL1 (show dT u i = .ret (aR ((gt u i).iv)) from (Eq.trans (cT hc1) (cT hc2)))
   have hd : de u = (aR ((gt u i).iv)) := (je (hX1.trans hr1))
   exact ret h rfl (.tmp rfl .nil) rfl (h.retP (by rw [hd] <;> rfl) trivial)
  ·
   have hq2 := hc2; try simp at hq2
   refine gz h <| gS <| gx hK7 <| gq fun K11 hK11 => gr fun K12 hK12 => g0 (ah rfl) rfl <| g0 (ah rfl) rfl <| g0 (da (i := i) uu24 zz87 rfl rfl (huv.nn (i := i) (by first | omega | grind)) (by first | omega | grind)) rfl <| g0 (fs uu87 rfl zz69 rfl (huv.nn (i := 0) (by first | omega | grind)) rfl rfl (k' := i * 32 + 20)) rfl <| g0 (eC (k := 20) aa69 zz69 huv (bF (by first | omega | grind)) rfl rfl rfl rfl (v := (vD ((gt u i).f))) rfl) rfl <| gc (bK Tryz.call114 rfl) (kk (gW ((gt u i).f) (ch (All.gt zu (aV _)).2 (by omega)))) rfl <| g0 (ag rfl) rfl <| gn hK12 ?_; clear h ac wo; intro ac wo h
   replace h := h.sub (F' := [(0, uv), (3, (.int .i64 ((i : Nat) : Int))), (5, (.int .i64 (cP ((gt u i).f))))]) ⟨rfl, rfl, rfl, trivial⟩
   refine gz h <| gr fun K13 hK13 => g0 (ah rfl) rfl <| g0 (fV rfl rfl) rfl <| gn hK13 ?_; clear h ac wo; intro ac wo h
   refine cr h rfl (fun hc3 => ?_) (fun hc3 => ?_)
   ·
    have hq3 := hc3; try simp at hq3
    refine gz h <| gr fun K14 hK14 => g0 (ah rfl) rfl <| g0 (ag rfl) rfl <| gn hK14 <| gT ?_; clear h ac wo; intro ac wo h
    have hr1 := eO hL1 (show dT u i = .ret (cP ((gt u i).f)) from (Eq.trans (cT hc1) (Eq.trans (cF hc2) (cT hc3))))
    have hd : de u = (cP ((gt u i).f)) := (je (hX1.trans hr1))
    exact ret h rfl (.tmp rfl .nil) rfl (h.retP (by rw [hd] <;> rfl) trivial)
   ·
    have hq3 := hc3; try simp at hq3
    refine gz h <| gS <| gx hK11 <| gq fun K15 hK15 => gr fun K16 hK16 => g0 (ah rfl) rfl <| g0 (dP rfl rfl (m := ((i : Nat) : Int)) (n := ((0 : Nat) : Int))) rfl <| gn hK16 ?_; clear h ac wo; intro ac wo h
    refine cr h rfl (fun hc4 => ?_) (fun hc4 => ?_)
    ·
     have hd4 := eq_of_beq hc4
     refine gz h <| gE <| gx hK6 <| gR <| g0 (ah rfl) rfl <| g0 (bI rfl rfl (r := ((i + 1 : Nat) : Int)) (by rw [IntKind.wrap_i64]; first | omega | grind)) rfl <| g0 (ag rfl) rfl <| gx (fun _ _ => bG) ?_; clear h ac wo; intro ac wo h
     exact aI ⟨m1, (by omega), _, (by first | omega | grind), bU hL1 (show dT u i = .go _ from (Eq.trans (cT hc1) (Eq.trans (cF hc2) (Eq.trans (cF hc3) (cT hc4))))), (by first | omega | grind), (h.pick [] (by decide)).sub ⟨rfl, rfl, trivial⟩⟩
    ·
     have hd4 := ne_of_beq_false hc4
     refine dF ?_
     refine hK15 _ _ ?_
     refine dg fun K17 hK17 => ?_
     replace h := h.emps 2
     refine cj mixed [dv _, dv _, dv _, dv _, dv _, dv _, dv _, dv _, dv _, dv _, dv _, ⟨.nd (.one 11 fun v => ∃ b, v = ptr b 0), [0]⟩, ⟨.nd (.one 12 fun v => ∃ b, v = ptr b 0), [1]⟩, ⟨.det undef, [0]⟩, ⟨.det undef, [1]⟩] [⟨.emp, [(11, .one 11 fun v => .blk (eo v) (cV (⟨(⟨oQ, oQ, false⟩ : GR), (⟨oQ, oQ, false⟩ : GR), false, false⟩ : Iv)) 55), (13, .one 11 fun v => .blk (eo v) (cV ((gt u (i - 1)).iv)) 55)]⟩, ⟨.emp, [(12, .one 12 fun v => .blk (eo v) (cV (⟨(⟨oQ, oQ, false⟩ : GR), (⟨oQ, oQ, false⟩ : GR), false, false⟩ : Iv)) 55), (14, .one 12 fun v => .blk (eo v) (cV ((gt u i).iv)) 55)]⟩] h rfl (by kernel_rfl) ⟨fun _ _ => om rfl, fun _ _ => om rfl, fun _ _ => ax (dD rfl rfl (r := (((i - 1) : Nat) : Int)) (by rw [IntKind.wrap_i64]; first | omega | grind)), fun _ _ => ax (da (i := (i - 1)) uu24 zz87 rfl rfl (huv.nn (i := (i - 1)) (by first | omega | grind)) (by first | omega | grind)), fun _ _ => ax (fs uu87 rfl zz55 rfl (huv.nn (i := 0) (by first | omega | grind)) rfl rfl (k' := (i - 1) * 32 + 0)), fun _ _ => ax (eC (k := 0) aa55 zz55 huv (bF (by first | omega | grind)) rfl rfl rfl rfl (v := (vV ((gt u (i - 1)).iv))) rfl), fun _ _ => om rfl, fun _ _ => om rfl, fun _ _ => ax (da (i := i) uu24 zz87 rfl rfl (huv.nn (i := i) (by first | omega | grind)) (by first | omega | grind)), fun _ _ => ax (fs uu87 rfl zz55 rfl (huv.nn (i := 0) (by first | omega | grind)) rfl rfl (k' := i * 32 + 0)), fun _ _ => ax (eC (k := 0) aa55 zz55 huv (bF (by first | omega | grind)) rfl rfl rfl rfl (v := (vV ((gt u i).iv))) rfl), fun _ _ => ky (ψ := fun v => ∃ b, v = ptr b 0) (B := fun v => [.blk (eo v) (cV (⟨(⟨oQ, oQ, false⟩ : GR), (⟨oQ, oQ, false⟩ : GR), false, false⟩ : Iv)) 55]) [.emp] rfl (fun v _ => by simp only [ec, bD] <;> rfl) (fun v hv => by simpa [DF.one, bD] using hv) (jn (iN vv55 rfl)), fun _ _ => ky (ψ := fun v => ∃ b, v = ptr b 0) (B := fun v => [.blk (eo v) (cV (⟨(⟨oQ, oQ, false⟩ : GR), (⟨oQ, oQ, false⟩ : GR), false, false⟩ : Iv)) 55]) [.emp] rfl (fun v _ => by simp only [ec, bD] <;> rfl) (fun v hv => by simpa [DF.one, bD] using hv) (jn (iN vv55 rfl)), (fun ξ hφ => by obtain ⟨b1, hb11⟩ := hφ 11 rfl; exact fM [.blk b1 (cV (⟨(⟨oQ, oQ, false⟩ : GR), (⟨oQ, oQ, false⟩ : GR), false, false⟩ : Iv)) 55] [.blk b1 (cV ((gt u (i - 1)).iv)) 55] (congrArg (fun v => [Asn.blk (eo v) (cV (⟨(⟨oQ, oQ, false⟩ : GR), (⟨oQ, oQ, false⟩ : GR), false, false⟩ : Iv)) 55]) hb11) (congrArg (fun v => [Asn.blk (eo v) (cV ((gt u (i - 1)).iv)) 55]) hb11) (gK zz55 (Eq.trans rfl (congrArg some hb11)) rfl rfl rfl rfl rfl rfl)), (fun ξ hφ => by obtain ⟨b2, hb12⟩ := hφ 12 rfl; exact fM [.blk b2 (cV (⟨(⟨oQ, oQ, false⟩ : GR), (⟨oQ, oQ, false⟩ : GR), false, false⟩ : Iv)) 55] [.blk b2 (cV ((gt u i).iv)) 55] (congrArg (fun v => [Asn.blk (eo v) (cV (⟨(⟨oQ, oQ, false⟩ : GR), (⟨oQ, oQ, false⟩ : GR), false, false⟩ : Iv)) 55]) hb12) (congrArg (fun v => [Asn.blk (eo v) (cV ((gt u i).iv)) 55]) hb12) (gK zz55 (Eq.trans rfl (congrArg some hb12)) rfl rfl rfl rfl rfl rfl)), trivial⟩ ?_
     clear h ac wo; intro ξ ac wo hφ h
     replace h : St w0 76 [(0, uv), (3, (.int .i64 ((i : Nat) : Int))), (6, ξ 11), (7, ξ 12)] [.blk (eo (ξ 11)) (cV ((gt u (i - 1)).iv)) 55, .blk (eo (ξ 12)) (cV ((gt u i).iv)) 55] ac wo := (h.pick [0, 1] (by decide)).sub ⟨rfl, rfl, rfl, rfl, trivial⟩
     revert h
     obtain ⟨b1, hb11⟩ : ∃ b, ξ 11 = ptr b 0 := hφ 11
     obtain ⟨b2, hb12⟩ : ∃ b, ξ 12 = ptr b 0 := hφ 12
     rw [hb11, hb12]; intro h
     clear hb11 hb12
     clear hφ ξ
     have p2 := az ((b0 (((gt u (i - 1)).iv).hi) (((gt u i).iv).lo) 10 (by omega) ((All.gt zu (aV _)).1).2 ((All.gt zu (aV _)).1).1) w0)
     refine gz h <| gx hK17 <| gr fun K18 hK18 => g0 (fa uu55 rfl zz53 rfl rfl rfl (k' := 9)) rfl <| g1 0 rfl (aX aa53 zz53 rfl rfl rfl (v := (vR (((gt u (i - 1)).iv).hi))) rfl) rfl <| g0 (fa uu55 rfl zz53 rfl rfl rfl (k' := 0)) rfl <| g1 1 rfl (aX aa53 zz53 rfl rfl rfl (v := (vR (((gt u i).iv).lo))) rfl) rfl <| gc (bK Tryz.call115 rfl) (kk (b0 (((gt u (i - 1)).iv).hi) (((gt u i).iv).lo) 10 (by omega) ((All.gt zu (aV _)).1).2 ((All.gt zu (aV _)).1).1)) rfl <| g0 (ag rfl) rfl <| gn hK18 <| gr fun K19 hK19 => g0 (ah rfl) rfl <| g0 (jD rfl rfl) rfl <| g0 (ah rfl) rfl <| ge2 rfl rfl (fun hg => (Rd.of_nil (ah rfl)).step) rfl <| ge2 rfl rfl (fun hg => (Rd.of_nil (dP (ar rfl hg) rfl)).step) rfl <| ge2 rfl rfl (fun hg => (Rd.of_nil (ah (ar rfl hg))).step) rfl <| ge3 rfl rfl (fun hg => (Rd.of_nil (fa uu55 rfl zz4 rfl rfl rfl (k' := 19))).step) rfl <| ge3 rfl rfl (fun hg => (Rd.of_mem (i := 0) (aX aa4 zz4 (ar rfl hg) rfl rfl (v := (.bool (((gt u (i - 1)).iv).openHi))) rfl) rfl).step) rfl <| ge3 rfl rfl (fun hg => (Rd.of_nil (ex (ar rfl hg))).step) rfl <| ge2 rfl rfl (fun hg => (Rd.of_nil (dQ (ar rfl hg) (fun e => (ar rfl (andI hg e))))).step) rfl <| ge2 rfl rfl (fun hg => (Rd.of_nil (ah (ar rfl hg))).step) rfl <| ge3 rfl rfl (fun hg => (Rd.of_nil (fa uu55 rfl zz4 rfl rfl rfl (k' := 18))).step) rfl <| ge3 rfl rfl (fun hg => (Rd.of_mem (i := 1) (aX aa4 zz4 (ar rfl hg) rfl rfl (v := (.bool (((gt u i).iv).openLo))) rfl) rfl).step) rfl <| ge3 rfl rfl (fun hg => (Rd.of_nil (ex (ar rfl hg))).step) rfl <| ge2 rfl rfl (fun hg => (Rd.of_nil (dQ (ar rfl hg) (fun e => (ar rfl (andI hg e))))).step) rfl <| g0 (nr rfl (fun e => (ar rfl (ns e)))) rfl <| gn hK19 ?_; clear h ac wo; intro ac wo h
     replace h := h.sub (F' := [(0, uv), (3, (.int .i64 ((i : Nat) : Int))), (66, (.bool ((decide ((aA (((gt u (i - 1)).iv).hi) (((gt u i).iv).lo)) > 0)) || ((((aA (((gt u (i - 1)).iv).hi) (((gt u i).iv).lo)) == 0) && (!((gt u (i - 1)).iv).openHi)) && (!((gt u i).iv).openLo)))))]) ⟨rfl, rfl, rfl, trivial⟩
     refine cr h rfl (fun hc5 => ?_) (fun hc5 => ?_)
     ·
      have hq5 := hc5; try simp at hq5
      refine gz h <| gr fun K20 hK20 => g0 (ag rfl) rfl <| gn hK20 <| gT ?_; clear h ac wo; intro ac wo h
      have hr1 := eO hL1 (show dT u i = .ret 7 from (Eq.trans (cT hc1) (Eq.trans (cF hc2) (Eq.trans (cF hc3) (Eq.trans (cF hc4) (cT hc5))))))
      have hd : de u = 7 := (je (hX1.trans hr1))
      exact ret h rfl (.tmp rfl .nil) rfl (h.retP (by rw [hd] <;> rfl) trivial)
     ·
      have hq5 := hc5; try simp at hq5
      refine gz h <| gS <| gN <| gx hK6 <| gR <| g0 (ah rfl) rfl <| g0 (bI rfl rfl (r := ((i + 1 : Nat) : Int)) (by rw [IntKind.wrap_i64]; first | omega | grind)) rfl <| g0 (ag rfl) rfl <| gx (fun _ _ => bG) ?_; clear h ac wo; intro ac wo h
      exact aI ⟨m1, (by omega), _, (by first | omega | grind), bU hL1 (show dT u i = .go _ from (Eq.trans (cT hc1) (Eq.trans (cF hc2) (Eq.trans (cF hc3) (Eq.trans (cF hc4) (cF hc5)))))), (by first | omega | grind), (h.pick [] (by decide)).sub ⟨rfl, rfl, trivial⟩⟩
 ·
  have hd1 := of_decide_eq_false hc1
  refine dX ?_
  have hx1 := dR hL1 (show dT u i = .out i from (cF hc1))
  refine gz h <| gx hK2 <| gq fun K21 hK21 => gr fun K22 hK22 => g0 (bp jQ rfl rfl (v := .agg #[]) rfl) rfl <| g0 (fG uu73 rfl rfl (v := (.agg #[]))) rfl <| g0 (bp jQ rfl rfl (v := .agg #[]) rfl) rfl <| g0 (fG uu73 rfl rfl (v := (.agg #[]))) rfl <| g0 (ah rfl) rfl ?_; clear h ac wo; intro ac wo h
  have s3 := RetR.pr ((fun w_ hB_ hS_ => dH u uv (by first | omega | grind) zu w_ (huv.below hB_)) _ h.bel h.sep)
  have p4 := s3.2
  refine nh (xs := (aa u)) h (bK Tryz.call42 rfl) (fun w_ hB_ hS_ => dH u uv (by first | omega | grind) zu w_ (huv.below hB_)) rfl ?_; clear h ac wo; intro sv5 ac wo _ h
  refine rd0 h (ah rfl) rfl <| gc (bK Tryz.call41 rfl) (fun w_ hB_ hS_ => ia (aa u) sv5 u uv s3.1 (All.mono zu (fun _ h_ => mz h_ (by omega))) w_ (row_view hS_ 0 rfl) (huv.below hB_)) rfl <| g0 (ex rfl) rfl <| gn hK22 ?_; clear h ac wo; intro ac wo h
  refine cr h rfl (fun hc6 => ?_) (fun hc6 => ?_)
  ·
   have hq6 := hc6; try simp at hq6
   refine gz h <| gr fun K23 hK23 => g0 (ag rfl) rfl <| gn hK23 ?_; clear h ac wo; intro ac wo h
   replace h := h.sub (F' := [(2, (.int .i64 5))]) ⟨rfl, trivial⟩
   refine e8 ?_
   have hd : de u = 5 := (Eq.trans (eW (hX1.trans hx1)) (cT hc6))
   exact ret h rfl (.tmp rfl .nil) rfl (h.retP (by rw [hd] <;> rfl) trivial)
  ·
   have hq6 := hc6; try simp at hq6
   refine gz h <| gS <| gx hK21 <| gr fun K24 hK24 => g0 (ag rfl) rfl <| gn hK24 ?_; clear h ac wo; intro ac wo h
   replace h := h.sub (F' := [(2, (.int .i64 0))]) ⟨rfl, trivial⟩
   refine e8 ?_
   have hd : de u = 0 := (Eq.trans (eW (hX1.trans hx1)) (cF hc6))
   exact ret h rfl (.tmp rfl .nil) rfl (h.retP (by rw [hd] <;> rfl) trivial)
attribute [irreducible] de
end Go.Sx
