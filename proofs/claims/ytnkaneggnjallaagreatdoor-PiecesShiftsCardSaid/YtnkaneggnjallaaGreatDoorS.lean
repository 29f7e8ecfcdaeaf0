/- A part of the proof that the law PiecesShifts answers true at every input and leaves its arguments as they were. -/
import Derived.Test.YtnkaneggnjallaaGreatDoorY
import Derived.Test.YtnkaneggnjallaaGreatDoorQ3
import Derived.Test.YtnkaneggnjallaaGreatDoorM4
set_option linter.unusedVariables false
set_option linter.unusedSimpArgs false
open Go.Proofs.Tryz renaming runUnderlying53 → uu53, sizeOf40 → zz40, isAgg40 → aa40, call102 → cc102, isAgg53 → aa53, sizeOf53 → zz53, zeroValue69 → vv69, zeroValue40 → vv40, runUnderlying69 → uu69, isAgg69 → aa69, sizeOf69 → zz69, isAgg38 → aa38, sizeOf38 → zz38, runUnderlying24 → uu24, sizeOf87 → zz87, zeroValue87 → vv87, runUnderlying87 → uu87, sizeOf55 → zz55, isAgg55 → aa55, zeroValue55 → vv55, runUnderlying55 → uu55, call51 → cc51
namespace Go.Sx
open Go Go.RowKit Go.Proofs
set_option maxRecDepth 100000
set_option maxHeartbeats 40000000
attribute [local irreducible] aD bN ah aL bt aN aK aF cY bj ar
def aH (x : GR) (by_ : GQ) : GR :=
 (⟨(au x.p by_), x.r, x.neg⟩ : GR)
theorem dz (x : GR) (by_ : GQ) (zx : SzR 30 x) (zby_ : SzQ 30 by_) (w0 : World)  : Calls Tryz.prog 51 #[(vR x), (vQ by_)] w0 (ec w0 (vR (aH x by_)) (SzR 24 (aH x by_))) := by
 refine enter (N := 11) (args := [(vR x), (vQ by_)]) Tryz.func51 rfl rfl ?_; intro ac h
 have c1 := bV x.p by_ 27 (by omega) zx.1 zby_
 have s1 := aA (c1 w0)
 refine dU fun K1 hK1 => ?_
 refine bx h (cR x) rfl rfl rfl fun b1 => gb (cQ by_) rfl rfl rfl fun b2 => ga (cR (⟨oQ, oQ, false⟩ : GR)) Tryz.zeroValue53 rfl rfl fun b3 => gn hK1 <| gr fun K2 hK2 => g0 (fa uu53 rfl zz40 rfl rfl rfl (k' := 0)) rfl <| g1 2 rfl (aX aa40 zz40 rfl rfl rfl (v := (vQ x.p)) rfl) rfl <| g1 1 rfl (aX aa40 zz40 rfl rfl rfl (v := (vQ by_)) rfl) rfl <| gc (bL cc102 rfl) (kk c1) rfl <| g0 (fa uu53 rfl zz40 rfl rfl rfl (k' := 0)) rfl <| gs 2 (cR (⟨(au x.p by_), x.r, x.neg⟩ : GR)) rfl zz40 rfl rfl rfl rfl rfl rfl rfl <| gn hK2 <| gr fun K3 hK3 => g1 2 rfl (aX aa53 zz53 rfl rfl rfl (v := (vR (⟨(au x.p by_), x.r, x.neg⟩ : GR))) rfl) rfl <| gs 0 (cR (⟨(au x.p by_), x.r, x.neg⟩ : GR)) rfl zz53 rfl rfl rfl rfl rfl rfl rfl <| gn hK3 <| gT ?_; clear h ac; intro ac wo h
 exact ret h rfl (.cell (v := (vR (⟨(au x.p by_), x.r, x.neg⟩ : GR))) rfl (i := 0) rfl aa53 zz53 rfl rfl rfl .nil) rfl (h.retP (by unfold aH; rfl) (by unfold aH; exact ⟨(cZ s1 (by omega)), (cZ zx.2 (by omega))⟩))
attribute [irreducible] aH
def bK (q : Qd) (by_ : GQ) : Qd :=
 (⟨(bP q (az by_)), (au q.c1 (an (au q.c2 q.c2) (az by_))), q.c2⟩ : Qd)
theorem ex (q : Qd) (by_ : GQ) (zq : SzD 30 q) (zby_ : SzQ 30 by_) (w0 : World)  : Calls Tryz.prog 49 #[(vD q), (vQ by_)] w0 (ec w0 (vD (bK q by_)) (SzD 16 (bK q by_))) := by
  refine enter (N := 26) (args := [(vD q), (vQ by_)]) Tryz.func49 rfl rfl ?_; intro ac h
  have c1 := d7 by_ 30 (by omega) zby_
  have s1 := aA (c1 w0)
  have c2 := bV q.c2 q.c2 27 (by omega) zq.2.2 zq.2.2
  have s2 := aA (c2 w0)
  refine dU fun K1 hK1 => ?_
  refine bx h (cD q) rfl rfl rfl fun b1 => gb (cQ by_) rfl rfl rfl fun b2 => ga (cD oD) vv69 rfl rfl fun b3 => gn hK1 <| gr fun K2 hK2 => g1 1 rfl (aX aa40 zz40 rfl rfl rfl (v := (vQ by_)) rfl) rfl <| gc (bL Tryz.call52 rfl) (kk c1) rfl <| ga (cQ oQ) vv40 rfl rfl fun b4 => gs 0 (cQ (az by_)) rfl zz40 rfl rfl rfl rfl rfl rfl rfl <| gn hK2 <| gr fun K3 hK3 => g0 (fa uu69 rfl zz40 rfl rfl rfl (k' := 8)) rfl <| g1 3 rfl (aX aa40 zz40 rfl rfl rfl (v := (vQ q.c2)) rfl) rfl <| g0 (fa uu69 rfl zz40 rfl rfl rfl (k' := 8)) rfl <| g1 3 rfl (aX aa40 zz40 rfl rfl rfl (v := (vQ q.c2)) rfl) rfl <| gc (bL cc102 rfl) (kk c2) rfl <| ga (cQ oQ) vv40 rfl rfl fun b5 => gs 0 (cQ (au q.c2 q.c2)) rfl zz40 rfl rfl rfl rfl rfl rfl rfl <| gn hK3 <| gq fun K4 hK4 => ?_; clear h ac; intro ac wo h
  have c3 := iF q (az by_) 20 (by omega) zq s1
  have s3 := aA (c3 w0)
  have s4 := aA ((bq (au q.c2 q.c2) (az by_) 25 (by omega) s2 (cZ s1 (by omega))) w0)
  have s5 := aA ((bV q.c1 (an (au q.c2 q.c2) (az by_)) 22 (by omega) (cZ zq.2.1 (by omega)) s4) w0)
  refine cv mixed [⟨.det (vD q), [4]⟩, ⟨.det (vQ (az by_)), [1]⟩, ⟨.det (vQ (bP q (az by_))), []⟩, ⟨.det (ptr b1 4), []⟩, ⟨.det (vQ q.c1), [4]⟩, ⟨.det (vQ (au q.c2 q.c2)), [0]⟩, ⟨.det (vQ (az by_)), [1]⟩, ⟨.det (vQ (an (au q.c2 q.c2) (az by_))), []⟩, ⟨.det (vQ (au q.c1 (an (au q.c2 q.c2) (az by_)))), []⟩, ⟨.det (ptr b1 8), []⟩, ⟨.det (vQ q.c2), [4]⟩, ⟨.det (vD (⟨(bP q (az by_)), (au q.c1 (an (au q.c2 q.c2) (az by_))), q.c2⟩ : Qd)), []⟩, ⟨.det undef, [2]⟩] [⟨.blk b5 (cQ (au q.c2 q.c2)) 40, []⟩, ⟨.blk b4 (cQ (az by_)) 40, []⟩, ⟨.blk b3 (cD oD) 69, [(12, .con (.blk b3 (cD (⟨(bP q (az by_)), (au q.c1 (an (au q.c2 q.c2) (az by_))), q.c2⟩ : Qd)) 69))]⟩, ⟨.blk b2 (cQ by_) 40, []⟩, ⟨.blk b1 (cD q) 69, []⟩] h rfl (by kernel_rfl) ⟨?_, ?_, ?_, ?_, ?_, ?_, ?_, ?_, ?_, ?_, ?_, ?_, ?_, trivial⟩ ?_
  · intro ξ hφ; exact cr [.blk b1 (cD q) 69] rfl rfl (aX aa69 zz69 rfl rfl rfl (v := (vD q)) rfl)
  · intro ξ hφ; exact cr [.blk b4 (cQ (az by_)) 40] rfl rfl (aX aa40 zz40 rfl rfl rfl (v := (vQ (az by_))) rfl)
  · intro ξ hφ; exact dW (dr (bL Tryz.call99 rfl) (kk c3))
  · intro ξ hφ; exact aC (fa uu69 rfl zz40 rfl rfl rfl (k' := 4))
  · intro ξ hφ; exact cr [.blk b1 (cD q) 69] rfl rfl (aX aa40 zz40 rfl rfl rfl (v := (vQ q.c1)) rfl)
  · intro ξ hφ; exact cr [.blk b5 (cQ (au q.c2 q.c2)) 40] rfl rfl (aX aa40 zz40 rfl rfl rfl (v := (vQ (au q.c2 q.c2))) rfl)
  · intro ξ hφ; exact cr [.blk b4 (cQ (az by_)) 40] rfl rfl (aX aa40 zz40 rfl rfl rfl (v := (vQ (az by_))) rfl)
  · intro ξ hφ; exact dW (dr (bL Tryz.call101 rfl) (kk (bq (au q.c2 q.c2) (az by_) 25 (by omega) s2 (cZ s1 (by omega)))))
  · intro ξ hφ; exact dW (dr (bL cc102 rfl) (kk (bV q.c1 (an (au q.c2 q.c2) (az by_)) 22 (by omega) (cZ zq.2.1 (by omega)) s4)))
  · intro ξ hφ; exact aC (fa uu69 rfl zz40 rfl rfl rfl (k' := 8))
  · intro ξ hφ; exact cr [.blk b1 (cD q) 69] rfl rfl (aX aa40 zz40 rfl rfl rfl (v := (vQ q.c2)) rfl)
  · intro ξ hφ; exact aC (bC qg rfl rfl (v := (vD (⟨(bP q (az by_)), (au q.c1 (an (au q.c2 q.c2) (az by_))), q.c2⟩ : Qd))) rfl)
  · intro ξ hφ; exact gh [.blk b3 (cD oD) 69] [.blk b3 (cD (⟨(bP q (az by_)), (au q.c1 (an (au q.c2 q.c2) (az by_))), q.c2⟩ : Qd)) 69] rfl rfl (gH zz69 rfl rfl rfl rfl rfl rfl rfl)
  clear h ac wo; intro ξ ac wo hφ h
  replace h : St w0 26 [(4, (ptr b3 0))] [.blk b5 (cQ (au q.c2 q.c2)) 40, .blk b4 (cQ (az by_)) 40, .blk b3 (cD (⟨(bP q (az by_)), (au q.c1 (an (au q.c2 q.c2) (az by_))), q.c2⟩ : Qd)) 69, .blk b2 (cQ by_) 40, .blk b1 (cD q) 69] ac wo := (h.pick [0, 1, 2, 3, 4] (by decide)).sub ⟨rfl, trivial⟩
  clear hφ ξ
  refine hK4 _ _ ?_
  refine fw ?_
  exact ret h rfl (.cell (v := (vD (⟨(bP q (az by_)), (au q.c1 (an (au q.c2 q.c2) (az by_))), q.c2⟩ : Qd))) rfl (i := 2) rfl aa69 zz69 rfl rfl rfl .nil) rfl (h.retP (by unfold bK; rfl) (by unfold bK; exact ⟨(cZ s3 (by omega)), (cZ s5 (by omega)), (cZ zq.2.2 (by omega))⟩))
attribute [irreducible] bK
end Go.Sx
namespace Go.Sx
open Go Go.RowKit Go.Proofs
set_option maxRecDepth 100000
set_option maxHeartbeats 40000000
attribute [local irreducible] aD bN ah aL bt aN aK aF cY bj ar
def dN (num : GI) (den : GI) : GQ × Int :=
 bif ((cj den) == 0) then
  ((⟨(⟨false, 0⟩ : GI), (⟨false, 0⟩ : GI)⟩ : GQ), 6)
 else
  ((aZ num den), 0)
theorem kY (num : GI) (den : GI) (znum : SzI 36 num) (zden : SzI 36 den) (w0 : World)  : Calls Tryz.prog 116 #[(vI num), (vI den)] w0 (ec w0 (.tuple #[(vQ ((dN num den).1)), (.int .i64 ((dN num den).2))]) (SzQ 32 ((dN num den).1))) := by
 refine enter (N := 13) (args := [(vI num), (vI den)]) Tryz.func116 rfl rfl ?_; intro ac h
 have p2 := aA ((dx den) w0)
 refine dU fun K1 hK1 => ?_
 refine bx h (cI num) rfl rfl rfl fun b1 => gb (cI den) rfl rfl rfl fun b2 => ga (cQ oQ) vv40 rfl rfl fun b3 => g0 (ae rfl) rfl <| gn hK1 <| gq fun K2 hK2 => gr fun K3 hK3 => g1 1 rfl (aX aa38 zz38 rfl rfl rfl (v := (vI den)) rfl) rfl <| gc (bL Tryz.call124 rfl) (kk (dx den)) rfl <| g0 (fj rfl rfl) rfl <| gn hK3 ?_; clear h ac; intro ac wo h
 refine cO h rfl (fun hc1 => ?_) (fun hc1 => ?_)
 ·
  have hd1 := eq_of_beq hc1
  refine gz h <| gr fun K4 hK4 => g0 (bC lW rfl rfl (v := (vQ oQ)) rfl) rfl <| gs 0 (cQ oQ) rfl zz40 rfl rfl rfl rfl rfl rfl rfl <| g0 (ae rfl) rfl <| gn hK4 <| gT ?_; clear h ac wo; intro ac wo h
  have hd : dN num den = (oQ, 6) := (cT hc1)
  exact ret h rfl (.cell (v := (vQ oQ)) rfl (i := 0) rfl aa40 zz40 rfl rfl rfl (.tmp rfl .nil)) rfl (h.retP (by rw [hd] <;> rfl) (by rw [hd]; exact ⟨(cc 0 (by decide) (by omega)), (cc 0 (by decide) (by omega))⟩))
 ·
  have hd1 := ne_of_beq_false hc1
  have c3 := dF num den 35 (by omega) znum zden
  have s3 := aA (c3 w0)
  refine gz h <| gS <| gx hK2 <| gr fun K5 hK5 => g1 2 rfl (aX aa38 zz38 rfl rfl rfl (v := (vI num)) rfl) rfl <| g1 1 rfl (aX aa38 zz38 rfl rfl rfl (v := (vI den)) rfl) rfl <| gc (bL Tryz.call157 rfl) (kk c3) rfl <| gs 0 (cQ (aZ num den)) rfl zz40 rfl rfl rfl rfl rfl rfl rfl <| g0 (ae rfl) rfl <| gn hK5 <| gT ?_; clear h ac wo; intro ac wo h
  have hd : dN num den = ((aZ num den), 0) := (cF hc1)
  exact ret h rfl (.cell (v := (vQ (aZ num den))) rfl (i := 0) rfl aa40 zz40 rfl rfl rfl (.tmp rfl .nil)) rfl (h.retP (by rw [hd] <;> rfl) (by rw [hd]; exact (cZ s3 (by omega))))
attribute [irreducible] dN
def ak (num : Int) (den : Int) : GQ × Int :=
 ((dN (a6 num) (a6 den)).1, (dN (a6 num) (a6 den)).2)
theorem jC (num : Int) (den : Int) (hn : -1000 ≤ num ∧ num ≤ 1000) (hd : -1000 ≤ den ∧ den ≤ 1000) (w0 : World)  : Calls Tryz.prog 47 #[(.int .i64 num), (.int .i64 den)] w0 (ec w0 (.tuple #[(vQ ((ak num den).1)), (.int .i64 ((ak num den).2))]) (SzQ 32 ((ak num den).1))) := by
 refine enter (N := 13) (args := [(.int .i64 num), (.int .i64 den)]) Tryz.func47 rfl rfl ?_; intro ac h
 have c1 := e8 num 40 (by omega)  (by omega)
 have s1 := aA (c1 w0)
 have c2 := e8 den 40 (by omega)  (by omega)
 have s2 := aA (c2 w0)
 have c3 := kY (a6 num) (a6 den) (ig s1 (by omega)) (ig s2 (by omega))
 have s3 := Calls.pr (c3 w0)
 refine dU fun K1 hK1 => ?_
 refine al h (cQ oQ) vv40 rfl rfl fun b1 => g0 (ae rfl) rfl <| gn hK1 <| gr fun K2 hK2 => g0 (af rfl) rfl <| gc (bL Tryz.call113 rfl) (kk c1) rfl <| g0 (af rfl) rfl <| gc (bL Tryz.call113 rfl) (kk c2) rfl <| gc (bL Tryz.call116 rfl) (kk c3) rfl <| g0 (bg rfl rfl) rfl <| g0 (bg rfl rfl) rfl <| gs 0 (cQ ((dN (a6 num) (a6 den)).1)) rfl zz40 rfl rfl rfl rfl rfl rfl rfl <| g0 (ae rfl) rfl <| gn hK2 <| gT ?_; clear h ac; intro ac wo h
 exact ret h rfl (.cell (v := (vQ ((dN (a6 num) (a6 den)).1))) rfl (i := 0) rfl aa40 zz40 rfl rfl rfl (.tmp rfl .nil)) rfl (h.retP (by unfold ak; rfl) (by unfold ak; exact s3))
attribute [irreducible] ak
end Go.Sx
namespace Go.Sx
open Go Go.RowKit Go.Proofs
set_option maxRecDepth 100000
set_option maxHeartbeats 40000000
attribute [local irreducible] aD bN ah aL bt aN aK aF cY bj ar
def aT (f : Qd) (g_ : GQ) : Qd :=
 (bK f g_)
theorem eT (f : Qd) (cp : Nat) (g_ : GQ) (zf : SzD 30 f) (zg_ : SzQ 30 g_) (w0 : World) (hcpp : PV w0 cp (cQ g_)) : Calls Tryz.prog 48 #[(vD f), (ptr cp 0)] w0 (ec w0 (vD (aT f g_)) (SzD 16 (aT f g_))) := by
 refine enter (N := 7) (args := [(vD f), (ptr cp 0)]) Tryz.func48 rfl rfl ?_; intro ac h
 have c1 := ex f g_ zf zg_
 have s1 := Calls.pr (c1 w0)
 refine dU fun K1 hK1 => ?_
 refine bx h (cD f) rfl rfl rfl fun b1 => ga (cD oD) vv69 rfl rfl fun b2 => gn hK1 <| gr fun K2 hK2 => g1 1 rfl (aX aa69 zz69 rfl rfl rfl (v := (vD f)) rfl) rfl <| g0 (r_ldP hcpp aa40 zz40 rfl rfl rfl (v := (vQ g_)) rfl) rfl <| gc (bL Tryz.call49 rfl) (kk c1) rfl <| gs 0 (cD (bK f g_)) rfl zz69 rfl rfl rfl rfl rfl rfl rfl <| gn hK2 <| gT ?_; clear h ac; intro ac wo h
 exact ret h rfl (.cell (v := (vD (bK f g_))) rfl (i := 0) rfl aa69 zz69 rfl rfl rfl .nil) rfl (h.retP (by unfold aT; rfl) (by unfold aT; exact s1))
attribute [irreducible] aT
def aS (f : Qd) (g_ : GQ) : Qd :=
 (bK f (az g_))
theorem eS (f : Qd) (cp : Nat) (g_ : GQ) (zf : SzD 30 f) (zg_ : SzQ 30 g_) (w0 : World) (hcpp : PV w0 cp (cQ g_)) : Calls Tryz.prog 53 #[(vD f), (ptr cp 0)] w0 (ec w0 (vD (aS f g_)) (SzD 16 (aS f g_))) := by
  refine enter (N := 8) (args := [(vD f), (ptr cp 0)]) Tryz.func53 rfl rfl ?_; intro ac h
  refine dU fun K1 hK1 => ?_
  refine bx h (cD f) rfl rfl rfl fun b1 => ga (cD oD) vv69 rfl rfl fun b2 => gn hK1 <| gq fun K2 hK2 => ?_; clear h ac; intro ac wo h
  have s1 := aA ((d7 g_ 30 (by omega) zg_) w0)
  have s2 := Calls.pr ((fun w_ hB_ hS_ => ex f (az g_) zf s1 w_ ) _ h.bel h.sep)
  refine cv mixed [⟨.det (vD f), [1]⟩, ⟨.det (vQ g_), []⟩, ⟨.det (vQ (az g_)), []⟩, ⟨.det (vD (bK f (az g_))), []⟩, ⟨.det undef, [0]⟩] [⟨.blk b2 (cD oD) 69, [(4, .con (.blk b2 (cD (bK f (az g_))) 69))]⟩, ⟨.blk b1 (cD f) 69, []⟩] h rfl (by kernel_rfl) ⟨?_, ?_, ?_, ?_, ?_, trivial⟩ ?_
  · intro ξ hφ; exact cr [.blk b1 (cD f) 69] rfl rfl (aX aa69 zz69 rfl rfl rfl (v := (vD f)) rfl)
  · intro ξ hφ; exact aC (r_ldP hcpp aa40 zz40 rfl rfl rfl (v := (vQ g_)) rfl)
  · intro ξ hφ; exact dW (dr (vs := [(vQ g_)]) (bL Tryz.call52 rfl) (fun w_ hB_ hS_ => (d7 g_ 30 (by omega) zg_) w_))
  · intro ξ hφ; exact dW (dr (bL Tryz.call49 rfl) (kk (ex f (az g_) zf s1)))
  · intro ξ hφ; exact gh [.blk b2 (cD oD) 69] [.blk b2 (cD (bK f (az g_))) 69] rfl rfl (gH zz69 rfl rfl rfl rfl rfl rfl rfl)
  clear h ac wo; intro ξ ac wo hφ h
  replace h : St w0 8 [(3, (ptr b2 0))] [.blk b2 (cD (bK f (az g_))) 69, .blk b1 (cD f) 69] ac wo := (h.pick [0, 1] (by decide)).sub ⟨rfl, trivial⟩
  clear hφ ξ
  refine hK2 _ _ ?_
  refine fw ?_
  exact ret h rfl (.cell (v := (vD (bK f (az g_)))) rfl (i := 0) rfl aa69 zz69 rfl rfl rfl .nil) rfl (h.retP (by unfold aS; rfl) (by unfold aS; exact s2))
attribute [irreducible] aS
def bQ (l : List (U Qd)) : (List (U Qd)) :=
 (aV l).1
theorem ey (l : List (U Qd)) (lv : Value) (hl : l.length < 20) (zl : All (fI 30) l) (w0 : World) (hlv : View w0 lv l) : Calls Tryz.prog 117 #[(.iface 73 (.agg #[])), lv] w0 (RetR w0 87 (bQ l) (All (fI 20) (bQ l) ∧ (bQ l).length ≤ 3 * l.length)) := by
 refine enter (N := 14) (args := [(.iface 73 (.agg #[])), lv]) Tryz.func117 rfl rfl ?_; intro ac h
 have hlenl := hlv.len
 refine dU fun K1 hK1 => ?_
 refine rd0 h (ae rfl) rfl <| gn hK1 <| gr fun K2 hK2 => g0 (af rfl) rfl <| g0 (af rfl) rfl ?_; clear h ac; intro ac wo h
 have s1 := RetT.pr ((fun w_ hB_ hS_ => dG l lv (by first | omega | grind) zl w_ (hlv.below hB_)) _ h.bel h.sep)
 have p2 := s1.2
 refine c_tup (xs := (aV l).1) h (bL Tryz.call39 rfl) (fun w_ hB_ hS_ => dG l lv (by first | omega | grind) zl w_ (hlv.below hB_)) rfl ?_; clear h ac wo; intro sv3 ac wo _ h
 refine rd0 h (af rfl) rfl <| g0 (bg rfl rfl) rfl <| g0 (bg rfl rfl) rfl <| g0 (ae rfl) rfl <| g0 (ae rfl) rfl <| gn hK2 <| gr fun K3 hK3 => g0 (af rfl) rfl <| g0 (ae rfl) rfl <| gn hK3 <| gT ?_; clear h ac wo; intro ac wo h
 exact ret h rfl (.tmp rfl .nil) rfl (by unfold bQ; exact h.retR 0 rfl ⟨s1.1, (by first | omega | grind)⟩)
attribute [irreducible] bQ
end Go.Sx
namespace Go.Sx
def shA (b g : GQ) (x : U Qd) : U Qd := ⟨⟨aH x.iv.lo b, aH x.iv.hi b, x.iv.openLo, x.iv.openHi⟩, aT x.f g⟩
def shB (b g : GQ) (x : U Qd) : U Qd := ⟨⟨aH x.iv.lo b, aH x.iv.hi b, x.iv.openLo, x.iv.openHi⟩, aS x.f g⟩
end Go.Sx
namespace Go.Sx
open Go Go.RowKit Go.Proofs
set_option maxRecDepth 100000
set_option maxHeartbeats 40000000
attribute [local irreducible] aD bN ah aL bt aN aK aF cY bj ar
def fW (l : List (U Qd)) (by_ : GQ) (g_ : GQ) (out : List (U Qd)) (x15 : Nat) : (List (U Qd)) :=
 (bQ out)
def cf (l : List (U Qd)) (by_ : GQ) (g_ : GQ) (out : List (U Qd)) (x15 : Nat) : Nx ((List (U Qd)) × Nat) (List (U Qd)) :=
 bif (decide (((x15 : Nat) : Int) < ((l.length : Nat) : Int))) then
  .go ((out ++ [(⟨(⟨(aH (((gt l x15).iv).lo) by_), (aH (((gt l x15).iv).hi) by_), ((gt l x15).iv).openLo, ((gt l x15).iv).openHi⟩ : Iv), (aT ((gt l x15).f) g_)⟩ : U Qd)]), (x15 + 1))
 else
  .out (out, x15)
def a8 (l : List (U Qd)) (by_ : GQ) (g_ : GQ) : (List (U Qd)) :=
 fin (b9 (fun s => cf l by_ g_ s.1 s.2) ((l.length - 0) + 1) ([], 0)) (fun s => fW l by_ g_ s.1 s.2) (fun r => r)
theorem fV (l : List (U Qd)) (lv : Value) (by_ : GQ) (cp : Nat) (g_ : GQ) (hl : l.length < 20) (hz : All (fI 30) (l.map (shA by_ g_))) (zl : All (fI 30) l) (zby_ : SzQ 30 by_) (zg_ : SzQ 30 g_) (w0 : World) (hlv : View w0 lv l) (hcpp : PV w0 cp (cQ g_)) : Calls Tryz.prog 50 #[(.iface 73 (.agg #[])), lv, (vQ by_), (.func (.func 48) #[] #[(ptr cp 0)])] w0 (RetR w0 87 (a8 l by_ g_) (All (fI 20) (a8 l by_ g_) ∧ (a8 l by_ g_).length ≤ 60)) := by
  refine enter (N := 44) (args := [(.iface 73 (.agg #[])), lv, (vQ by_), (.func (.func 48) #[] #[(ptr cp 0)])]) Tryz.func50 rfl rfl ?_; intro ac h
  have hlenl := hlv.len
  refine dU fun K1 hK1 => ?_
  refine bx h (cQ by_) rfl rfl rfl fun b1 => g0 (ae rfl) rfl <| gn hK1 <| gr fun K2 hK2 => g0 (ae rfl) rfl <| gn hK2 <| gq fun K3 hK3 => gr fun K4 hK4 => g0 (af rfl) rfl <| g0 (du uu24 rfl hlv.sl) rfl <| g0 (af rfl) rfl <| gn hK4 <| gB ?_; clear h ac; intro ac wo h
  replace h := h.nilRow (α := U Qd) 87
  obtain ⟨X1, hX1⟩ : ∃ X, b9 (fun s => cf l by_ g_ s.1 s.2) ((l.length - 0) + 1) ([], 0) = X := ⟨_, rfl⟩
  refine wp_loop_ghost (fun n_ a_ w_ => ∃ (out : List (U Qd)) (x15 : Nat) (outv : Value), ((l.length - x15) < n_) ∧ (b9 (fun s => cf l by_ g_ s.1 s.2) n_ (out, x15) = X1) ∧ (x15 ≤ l.length) ∧ (All (fI 16) out) ∧ (out = (l.take x15).map (shA by_ g_)) ∧ (out.length = x15) ∧ St w0 44 [(0, (.iface 73 (.agg #[]))), (3, (.func (.func 48) #[] #[(ptr cp 0)])), (6, (ptr b1 0)), (9, outv), (13, lv), (14, (.int .i64 ((l.length : Nat) : Int))), (15, (.int .i64 ((x15 : Nat) : Int)))] [.row (α := U Qd) 87 outv out, .blk b1 (cQ by_) 40] a_ w_) ((l.length - 0) + 1) ⟨[], 0, (.slice none 0 0), (by omega), hX1, (by first | omega | grind), All.nil, rfl, rfl, (h.sub ⟨rfl, rfl, rfl, rfl, rfl, rfl, rfl, trivial⟩)⟩ ?_
  clear h ac wo; rintro n1 ac wo ⟨out, x15, outv, hm1, hL1, hx15, zout, hu, hol, h⟩
  obtain ⟨m1, rfl⟩ : ∃ m, n1 = m + 1 := ⟨n1 - 1, by omega⟩
  refine gz h <| gr fun K5 hK5 => g0 (dY rfl rfl) rfl <| gn hK5 <| gq fun K6 hK6 => ?_; clear h ac wo; intro ac wo h
  refine cO h rfl (fun hc1 => ?_) (fun hc1 => ?_)
  · skip
    have hd1 := of_decide_eq_true hc1
    refine gz h <| gS <| gx hK6 <| gq fun K7 hK7 => gB <| gr fun K8 hK8 => g0 (dK (i := x15) uu24 zz87 rfl rfl (hlv.nn (i := x15) (by first | omega | grind)) (by first | omega | grind)) rfl <| g0 (eU (k := 0) Tryz.isAgg87 zz87 hlv (bU (by first | omega | grind)) rfl (Nat.add_zero _) rfl rfl (v := (vUD (gt l x15))) rfl) rfl <| ga (cUD (⟨(⟨(⟨oQ, oQ, false⟩ : GR), (⟨oQ, oQ, false⟩ : GR), false, false⟩ : Iv), oD⟩ : U Qd)) vv87 rfl rfl fun b2 => gs 0 (cUD (gt l x15)) rfl zz87 rfl rfl rfl rfl rfl rfl rfl <| gn hK8 <| gr fun K9 hK9 => g0 (fa uu87 rfl zz55 rfl rfl rfl (k' := 0)) rfl <| g1 0 rfl (aX aa55 zz55 rfl rfl rfl (v := (vV ((gt l x15).iv))) rfl) rfl <| ga (cV (⟨(⟨oQ, oQ, false⟩ : GR), (⟨oQ, oQ, false⟩ : GR), false, false⟩ : Iv)) vv55 rfl rfl fun b3 => gs 0 (cV ((gt l x15).iv)) rfl zz55 rfl rfl rfl rfl rfl rfl rfl <| gn hK9 <| gq fun K10 hK10 => ?_; clear h ac wo; intro ac wo h
    have s2 := Calls.pr ((fun w_ hB_ hS_ => dz (((gt l x15).iv).lo) by_ ((All.gt zl (bp _)).1).1 zby_ w_ ) _ h.bel h.sep)
    have s3 := Calls.pr ((fun w_ hB_ hS_ => dz (((gt l x15).iv).hi) by_ ((All.gt zl (bp _)).1).2 zby_ w_ ) _ h.bel h.sep)
    refine cv mixed [⟨.det (ptr b3 0), []⟩, ⟨.det (vR (((gt l x15).iv).lo)), [0]⟩, ⟨.det (vQ by_), [3]⟩, ⟨.det (vR (aH (((gt l x15).iv).lo) by_)), []⟩, ⟨.det (ptr b3 9), []⟩, ⟨.det (vR (((gt l x15).iv).hi)), [0]⟩, ⟨.det (vQ by_), [3]⟩, ⟨.det (vR (aH (((gt l x15).iv).hi) by_)), []⟩, ⟨.det (ptr b3 0), []⟩, ⟨.det undef, [0]⟩, ⟨.det (ptr b3 9), []⟩, ⟨.det undef, [0]⟩] [⟨.blk b3 (cV ((gt l x15).iv)) 55, [(9, .con (.blk b3 (cV (⟨(aH (((gt l x15).iv).lo) by_), ((gt l x15).iv).hi, ((gt l x15).iv).openLo, ((gt l x15).iv).openHi⟩ : Iv)) 55)), (11, .con (.blk b3 (cV (⟨(aH (((gt l x15).iv).lo) by_), (aH (((gt l x15).iv).hi) by_), ((gt l x15).iv).openLo, ((gt l x15).iv).openHi⟩ : Iv)) 55))]⟩, ⟨.blk b2 (cUD (gt l x15)) 87, []⟩, ⟨.row (α := U Qd) 87 outv out, []⟩, ⟨.blk b1 (cQ by_) 40, []⟩] h rfl (by kernel_rfl) ⟨?_, ?_, ?_, ?_, ?_, ?_, ?_, ?_, ?_, ?_, ?_, ?_, trivial⟩ ?_
    · intro ξ hφ; exact aC (mE uu55 rfl zz53 (by decide) rfl rfl (k' := 0))
    · intro ξ hφ; exact cr [.blk b3 (cV ((gt l x15).iv)) 55] rfl rfl (aX aa53 zz53 rfl rfl rfl (v := (vR (((gt l x15).iv).lo))) rfl)
    · intro ξ hφ; exact cr [.blk b1 (cQ by_) 40] rfl rfl (aX aa40 zz40 rfl rfl rfl (v := (vQ by_)) rfl)
    · intro ξ hφ; exact dW (dr (vs := [(vR (((gt l x15).iv).lo)), (vQ by_)]) (bL cc51 rfl) (fun w_ hB_ hS_ => dz (((gt l x15).iv).lo) by_ ((All.gt zl (bp _)).1).1 zby_ w_ ))
    · intro ξ hφ; exact aC (fa uu55 rfl zz53 rfl rfl rfl (k' := 9))
    · intro ξ hφ; exact cr [.blk b3 (cV ((gt l x15).iv)) 55] rfl rfl (aX aa53 zz53 rfl rfl rfl (v := (vR (((gt l x15).iv).hi))) rfl)
    · intro ξ hφ; exact cr [.blk b1 (cQ by_) 40] rfl rfl (aX aa40 zz40 rfl rfl rfl (v := (vQ by_)) rfl)
    · intro ξ hφ; exact dW (dr (bL cc51 rfl) (kk (dz (((gt l x15).iv).hi) by_ ((All.gt zl (bp _)).1).2 zby_)))
    · intro ξ hφ; exact aC (fa uu55 rfl zz53 rfl rfl rfl (k' := 0))
    · intro ξ hφ; exact gh [.blk b3 (cV ((gt l x15).iv)) 55] [.blk b3 (cV (⟨(aH (((gt l x15).iv).lo) by_), ((gt l x15).iv).hi, ((gt l x15).iv).openLo, ((gt l x15).iv).openHi⟩ : Iv)) 55] rfl rfl (gH zz53 rfl rfl rfl rfl rfl rfl rfl)
    · intro ξ hφ; exact aC (fa uu55 rfl zz53 rfl rfl rfl (k' := 9))
    · intro ξ hφ; exact gh [.blk b3 (cV (⟨(aH (((gt l x15).iv).lo) by_), ((gt l x15).iv).hi, ((gt l x15).iv).openLo, ((gt l x15).iv).openHi⟩ : Iv)) 55] [.blk b3 (cV (⟨(aH (((gt l x15).iv).lo) by_), (aH (((gt l x15).iv).hi) by_), ((gt l x15).iv).openLo, ((gt l x15).iv).openHi⟩ : Iv)) 55] rfl rfl (gH zz53 rfl rfl rfl rfl rfl rfl rfl)
    clear h ac wo; intro ξ ac wo hφ h
    replace h : St w0 44 [(0, (.iface 73 (.agg #[]))), (3, (.func (.func 48) #[] #[(ptr cp 0)])), (6, (ptr b1 0)), (9, outv), (13, lv), (14, (.int .i64 ((l.length : Nat) : Int))), (15, (.int .i64 ((x15 : Nat) : Int))), (11, (ptr b2 0)), (12, (ptr b3 0))] [.blk b3 (cV (⟨(aH (((gt l x15).iv).lo) by_), (aH (((gt l x15).iv).hi) by_), ((gt l x15).iv).openLo, ((gt l x15).iv).openHi⟩ : Iv)) 55, .blk b2 (cUD (gt l x15)) 87, .row (α := U Qd) 87 outv out, .blk b1 (cQ by_) 40] ac wo := (h.pick [0, 1, 2, 3] (by decide)).sub ⟨rfl, rfl, rfl, rfl, rfl, rfl, rfl, rfl, rfl, trivial⟩
    clear hφ ξ
    refine hK10 _ _ ?_
    have s4 := Calls.pr ((fun w_ hB_ hS_ => eT ((gt l x15).f) cp g_ (All.gt zl (bp _)).2 zg_ w_ (hcpp.below hB_)) _ h.bel h.sep)
    replace h := h.emps 1
    refine cv mixed [dv _, dw _ [0], dv _, dv _, dw _ [1], dv _, dv _, ⟨.nd (.one 7 fun v => NN v 1), [4]⟩, ⟨.nd (.con True), [2, 4]⟩, ⟨.nd (.two 9 8 fun a b => a = b), []⟩] [⟨_, []⟩, ⟨_, []⟩, ⟨.row (α := U Qd) 87 outv out, [(8, .one 8 fun v => .row (α := U Qd) 87 v (out ++ [(⟨(⟨(aH (((gt l x15).iv).lo) by_), (aH (((gt l x15).iv).hi) by_), ((gt l x15).iv).openLo, ((gt l x15).iv).openHi⟩ : Iv), (aT ((gt l x15).f) g_)⟩ : U Qd)]))]⟩, ⟨_, []⟩, ⟨.emp, [(7, .one 7 fun v => .row (α := U Qd) 87 v ([(⟨(⟨(aH (((gt l x15).iv).lo) by_), (aH (((gt l x15).iv).hi) by_), ((gt l x15).iv).openLo, ((gt l x15).iv).openHi⟩ : Iv), (aT ((gt l x15).f) g_)⟩ : U Qd)]))]⟩] h rfl (by kernel_rfl) ⟨fun _ _ => om rfl, fun _ _ => cr _ rfl rfl (aX aa55 zz55 rfl rfl rfl (v := (vV (⟨(aH (((gt l x15).iv).lo) by_), (aH (((gt l x15).iv).hi) by_), ((gt l x15).iv).openLo, ((gt l x15).iv).openHi⟩ : Iv))) rfl), fun _ _ => om rfl, fun _ _ => aC (fa uu87 rfl zz69 rfl rfl rfl (k' := 20)), fun _ _ => cr _ rfl rfl (aX aa69 zz69 rfl rfl rfl (v := (vD ((gt l x15).f))) rfl), fun _ _ => dW (dr (m5 (cap := [(ptr cp 0)]) Tryz.call48 rfl rfl) (fun w_ hB_ hS_ => eT ((gt l x15).f) cp g_ (All.gt zl (bp _)).2 zg_ w_ (hcpp.below hB_))), fun _ _ => aC (bC iM rfl rfl (v := (vUD (⟨(⟨(aH (((gt l x15).iv).lo) by_), (aH (((gt l x15).iv).hi) by_), ((gt l x15).iv).openLo, ((gt l x15).iv).openHi⟩ : Iv), (aT ((gt l x15).f) g_)⟩ : U Qd))) rfl), fun _ _ => kR (ψ := fun v => NN v 1) (B := fun v => [.row (α := U Qd) 87 v ([(⟨(⟨(aH (((gt l x15).iv).lo) by_), (aH (((gt l x15).iv).hi) by_), ((gt l x15).iv).openLo, ((gt l x15).iv).openHi⟩ : Iv), (aT ((gt l x15).f) g_)⟩ : U Qd)])]) [.emp] rfl (fun v _ => by simp only [ej, bB] <;> rfl) (fun v hv => by simpa [DF.one, bB] using hv) (jN (cK (α := U Qd) (xs := [.tmp 37]) (vs := [(vUD (⟨(⟨(aH (((gt l x15).iv).lo) by_), (aH (((gt l x15).iv).hi) by_), ((gt l x15).iv).openLo, ((gt l x15).iv).openHi⟩ : Iv), (aT ((gt l x15).f) g_)⟩ : U Qd))]) [(⟨(⟨(aH (((gt l x15).iv).lo) by_), (aH (((gt l x15).iv).hi) by_), ((gt l x15).iv).openLo, ((gt l x15).iv).openHi⟩ : Iv), (aT ((gt l x15).f) g_)⟩ : U Qd)] d9 rfl rfl rfl (by decide))), fun ξ hφ => kR (B := fun v => [.row (α := U Qd) 87 v (out ++ [(⟨(⟨(aH (((gt l x15).iv).lo) by_), (aH (((gt l x15).iv).hi) by_), ((gt l x15).iv).openLo, ((gt l x15).iv).openHi⟩ : Iv), (aT ((gt l x15).f) g_)⟩ : U Qd)]), .row (α := U Qd) 87 (ξ 7) ([(⟨(⟨(aH (((gt l x15).iv).lo) by_), (aH (((gt l x15).iv).hi) by_), ((gt l x15).iv).openLo, ((gt l x15).iv).openHi⟩ : Iv), (aT ((gt l x15).f) g_)⟩ : U Qd)])]) [.row (α := U Qd) 87 outv out, .row (α := U Qd) 87 (ξ 7) ([(⟨(⟨(aH (((gt l x15).iv).lo) by_), (aH (((gt l x15).iv).hi) by_), ((gt l x15).iv).openLo, ((gt l x15).iv).openHi⟩ : Iv), (aT ((gt l x15).f) g_)⟩ : U Qd)])] rfl (fun v _ => by simp only [ej, bB] <;> rfl) (fun _ _ => trivial) (er (xs := out) (ys := [(⟨(⟨(aH (((gt l x15).iv).lo) by_), (aH (((gt l x15).iv).hi) by_), ((gt l x15).iv).openLo, ((gt l x15).iv).openHi⟩ : Iv), (aT ((gt l x15).f) g_)⟩ : U Qd)]) d9 (fun w hs => (row_view hs 0 rfl)) rfl rfl (by first | omega | grind)), fun ξ hφ => ob_n (φ := .two 9 8 fun a b => a = b) (v := ξ 8) [] rfl rfl (by show upd ξ 9 (ξ 8) 9 = upd ξ 9 (ξ 8) 8; rw [bB, io (by decide)]) (ae rfl), trivial⟩ ?_
    clear h ac wo; intro ξ ac wo hφ h
    replace h : St w0 44 [(0, (.iface 73 (.agg #[]))), (3, (.func (.func 48) #[] #[(ptr cp 0)])), (6, (ptr b1 0)), (9, ξ 9), (13, lv), (14, (.int .i64 ((l.length : Nat) : Int))), (15, (.int .i64 ((x15 : Nat) : Int)))] [.blk b3 (cV (⟨(aH (((gt l x15).iv).lo) by_), (aH (((gt l x15).iv).hi) by_), ((gt l x15).iv).openLo, ((gt l x15).iv).openHi⟩ : Iv)) 55, .blk b2 (cUD (gt l x15)) 87, .row (α := U Qd) 87 (ξ 8) (out ++ [(⟨(⟨(aH (((gt l x15).iv).lo) by_), (aH (((gt l x15).iv).hi) by_), ((gt l x15).iv).openLo, ((gt l x15).iv).openHi⟩ : Iv), (aT ((gt l x15).f) g_)⟩ : U Qd)]), .blk b1 (cQ by_) 40] ac wo := (h.pick [0, 1, 2, 3] (by decide)).sub ⟨rfl, rfl, rfl, rfl, rfl, rfl, rfl, trivial⟩
    rw [show ξ 9 = ξ 8 from hφ 9] at h
    generalize hsv8 : ξ 8 = sv5 at h; clear hsv8
    clear hφ ξ
    refine gz h <| gN <| gx hK7 <| gR <| g0 (bM rfl rfl (r := ((x15 + 1 : Nat) : Int)) (by rw [IntKind.wrap_i64]; first | omega | grind)) rfl <| g0 (af rfl) rfl <| gx (fun _ _ => bR) ?_; clear h ac wo; intro ac wo h
    exact aM ⟨m1, (by omega), _, _, _, (by first | omega | grind), b0 hL1 (show cf l by_ g_ out x15 = .go _ from (cT hc1)), (by first | omega | grind), (All.app zout (All.cons ⟨⟨(cz s2 (by omega)), (cz s3 (by omega))⟩, s4⟩ All.nil)), (by rw [hu, oP (by omega), List.map_append]; rfl), (by first | omega | grind), (h.pick [2, 3] (by decide)).sub ⟨rfl, rfl, rfl, rfl, rfl, rfl, rfl, trivial⟩⟩
  · skip
    have hd1 := of_decide_eq_false hc1
    refine d8 ?_
    have hx1 := dX hL1 (show cf l by_ g_ out x15 = .out (out, x15) from (cF hc1))
    refine hK3 _ _ ?_
    refine dU fun K11 hK11 => ?_
    have hu2 : out = l.map (shA by_ g_) := by rw [hu, List.take_of_length_le (by omega)]
    have hul : out.length < 20 := by rw [hu2, List.length_map]; assumption
    have hnz : All (fI 30) out := by rw [hu2]; exact hz
    refine rd0 h (af rfl) rfl <| g0 (af rfl) rfl ?_; clear h ac wo; intro ac wo h
    have s6 := RetR.pr ((fun w_ hB_ hS_ => ey out outv (by first | omega | grind) hnz w_ (row_view hS_ 0 rfl)) _ h.bel h.sep)
    have p7 := s6.2
    refine lU (xs := (bQ out)) h (bL Tryz.call117 rfl) (fun w_ hB_ hS_ => ey out outv (by first | omega | grind) hnz w_ (row_view hS_ 0 rfl)) rfl ?_; clear h ac wo; intro sv8 ac wo _ h
    refine rd0 h (ae rfl) rfl <| gn hK11 <| gT ?_; clear h ac wo; intro ac wo h
    have hd : a8 l by_ g_ = (bQ out) := (eQ (hX1.trans hx1))
    exact ret h rfl (.tmp rfl .nil) rfl (by rw [hd]; exact h.retR 0 rfl ⟨s6.1, (by first | omega | grind)⟩)
attribute [irreducible] a8
def fU (l : List (U Qd)) (by_ : GQ) (g_ : GQ) (out : List (U Qd)) (x15 : Nat) : (List (U Qd)) :=
 (bQ out)
def ce (l : List (U Qd)) (by_ : GQ) (g_ : GQ) (out : List (U Qd)) (x15 : Nat) : Nx ((List (U Qd)) × Nat) (List (U Qd)) :=
 bif (decide (((x15 : Nat) : Int) < ((l.length : Nat) : Int))) then
  .go ((out ++ [(⟨(⟨(aH (((gt l x15).iv).lo) by_), (aH (((gt l x15).iv).hi) by_), ((gt l x15).iv).openLo, ((gt l x15).iv).openHi⟩ : Iv), (aS ((gt l x15).f) g_)⟩ : U Qd)]), (x15 + 1))
 else
  .out (out, x15)
def bY (l : List (U Qd)) (by_ : GQ) (g_ : GQ) : (List (U Qd)) :=
 fin (b9 (fun s => ce l by_ g_ s.1 s.2) ((l.length - 0) + 1) ([], 0)) (fun s => fU l by_ g_ s.1 s.2) (fun r => r)
theorem fT (l : List (U Qd)) (lv : Value) (by_ : GQ) (cp : Nat) (g_ : GQ) (hl : l.length < 20) (hz : All (fI 30) (l.map (shB by_ g_))) (zl : All (fI 30) l) (zby_ : SzQ 30 by_) (zg_ : SzQ 30 g_) (w0 : World) (hlv : View w0 lv l) (hcpp : PV w0 cp (cQ g_)) : Calls Tryz.prog 50 #[(.iface 73 (.agg #[])), lv, (vQ by_), (.func (.func 53) #[] #[(ptr cp 0)])] w0 (RetR w0 87 (bY l by_ g_) (All (fI 20) (bY l by_ g_) ∧ (bY l by_ g_).length ≤ 60)) := by
  refine enter (N := 44) (args := [(.iface 73 (.agg #[])), lv, (vQ by_), (.func (.func 53) #[] #[(ptr cp 0)])]) Tryz.func50 rfl rfl ?_; intro ac h
  have hlenl := hlv.len
  refine dU fun K1 hK1 => ?_
  refine bx h (cQ by_) rfl rfl rfl fun b1 => g0 (ae rfl) rfl <| gn hK1 <| gr fun K2 hK2 => g0 (ae rfl) rfl <| gn hK2 <| gq fun K3 hK3 => gr fun K4 hK4 => g0 (af rfl) rfl <| g0 (du uu24 rfl hlv.sl) rfl <| g0 (af rfl) rfl <| gn hK4 <| gB ?_; clear h ac; intro ac wo h
  replace h := h.nilRow (α := U Qd) 87
  obtain ⟨X1, hX1⟩ : ∃ X, b9 (fun s => ce l by_ g_ s.1 s.2) ((l.length - 0) + 1) ([], 0) = X := ⟨_, rfl⟩
  refine wp_loop_ghost (fun n_ a_ w_ => ∃ (out : List (U Qd)) (x15 : Nat) (outv : Value), ((l.length - x15) < n_) ∧ (b9 (fun s => ce l by_ g_ s.1 s.2) n_ (out, x15) = X1) ∧ (x15 ≤ l.length) ∧ (All (fI 16) out) ∧ (out = (l.take x15).map (shB by_ g_)) ∧ (out.length = x15) ∧ St w0 44 [(0, (.iface 73 (.agg #[]))), (3, (.func (.func 53) #[] #[(ptr cp 0)])), (6, (ptr b1 0)), (9, outv), (13, lv), (14, (.int .i64 ((l.length : Nat) : Int))), (15, (.int .i64 ((x15 : Nat) : Int)))] [.row (α := U Qd) 87 outv out, .blk b1 (cQ by_) 40] a_ w_) ((l.length - 0) + 1) ⟨[], 0, (.slice none 0 0), (by omega), hX1, (by first | omega | grind), All.nil, rfl, rfl, (h.sub ⟨rfl, rfl, rfl, rfl, rfl, rfl, rfl, trivial⟩)⟩ ?_
  clear h ac wo; rintro n1 ac wo ⟨out, x15, outv, hm1, hL1, hx15, zout, hu, hol, h⟩
  obtain ⟨m1, rfl⟩ : ∃ m, n1 = m + 1 := ⟨n1 - 1, by omega⟩
  refine gz h <| gr fun K5 hK5 => g0 (dY rfl rfl) rfl <| gn hK5 <| gq fun K6 hK6 => ?_; clear h ac wo; intro ac wo h
  refine cO h rfl (fun hc1 => ?_) (fun hc1 => ?_)
  · skip
    have hd1 := of_decide_eq_true hc1
    refine gz h <| gS <| gx hK6 <| gq fun K7 hK7 => gB <| gr fun K8 hK8 => g0 (dK (i := x15) uu24 zz87 rfl rfl (hlv.nn (i := x15) (by first | omega | grind)) (by first | omega | grind)) rfl <| g0 (eU (k := 0) Tryz.isAgg87 zz87 hlv (bU (by first | omega | grind)) rfl (Nat.add_zero _) rfl rfl (v := (vUD (gt l x15))) rfl) rfl <| ga (cUD (⟨(⟨(⟨oQ, oQ, false⟩ : GR), (⟨oQ, oQ, false⟩ : GR), false, false⟩ : Iv), oD⟩ : U Qd)) vv87 rfl rfl fun b2 => gs 0 (cUD (gt l x15)) rfl zz87 rfl rfl rfl rfl rfl rfl rfl <| gn hK8 <| gr fun K9 hK9 => g0 (fa uu87 rfl zz55 rfl rfl rfl (k' := 0)) rfl <| g1 0 rfl (aX aa55 zz55 rfl rfl rfl (v := (vV ((gt l x15).iv))) rfl) rfl <| ga (cV (⟨(⟨oQ, oQ, false⟩ : GR), (⟨oQ, oQ, false⟩ : GR), false, false⟩ : Iv)) vv55 rfl rfl fun b3 => gs 0 (cV ((gt l x15).iv)) rfl zz55 rfl rfl rfl rfl rfl rfl rfl <| gn hK9 <| gq fun K10 hK10 => ?_; clear h ac wo; intro ac wo h
    have s2 := Calls.pr ((fun w_ hB_ hS_ => dz (((gt l x15).iv).lo) by_ ((All.gt zl (bp _)).1).1 zby_ w_ ) _ h.bel h.sep)
    have s3 := Calls.pr ((fun w_ hB_ hS_ => dz (((gt l x15).iv).hi) by_ ((All.gt zl (bp _)).1).2 zby_ w_ ) _ h.bel h.sep)
    refine cv mixed [⟨.det (ptr b3 0), []⟩, ⟨.det (vR (((gt l x15).iv).lo)), [0]⟩, ⟨.det (vQ by_), [3]⟩, ⟨.det (vR (aH (((gt l x15).iv).lo) by_)), []⟩, ⟨.det (ptr b3 9), []⟩, ⟨.det (vR (((gt l x15).iv).hi)), [0]⟩, ⟨.det (vQ by_), [3]⟩, ⟨.det (vR (aH (((gt l x15).iv).hi) by_)), []⟩, ⟨.det (ptr b3 0), []⟩, ⟨.det undef, [0]⟩, ⟨.det (ptr b3 9), []⟩, ⟨.det undef, [0]⟩] [⟨.blk b3 (cV ((gt l x15).iv)) 55, [(9, .con (.blk b3 (cV (⟨(aH (((gt l x15).iv).lo) by_), ((gt l x15).iv).hi, ((gt l x15).iv).openLo, ((gt l x15).iv).openHi⟩ : Iv)) 55)), (11, .con (.blk b3 (cV (⟨(aH (((gt l x15).iv).lo) by_), (aH (((gt l x15).iv).hi) by_), ((gt l x15).iv).openLo, ((gt l x15).iv).openHi⟩ : Iv)) 55))]⟩, ⟨.blk b2 (cUD (gt l x15)) 87, []⟩, ⟨.row (α := U Qd) 87 outv out, []⟩, ⟨.blk b1 (cQ by_) 40, []⟩] h rfl (by kernel_rfl) ⟨?_, ?_, ?_, ?_, ?_, ?_, ?_, ?_, ?_, ?_, ?_, ?_, trivial⟩ ?_
    · intro ξ hφ; exact aC (mE uu55 rfl zz53 (by decide) rfl rfl (k' := 0))
    · intro ξ hφ; exact cr [.blk b3 (cV ((gt l x15).iv)) 55] rfl rfl (aX aa53 zz53 rfl rfl rfl (v := (vR (((gt l x15).iv).lo))) rfl)
    · intro ξ hφ; exact cr [.blk b1 (cQ by_) 40] rfl rfl (aX aa40 zz40 rfl rfl rfl (v := (vQ by_)) rfl)
    · intro ξ hφ; exact dW (dr (vs := [(vR (((gt l x15).iv).lo)), (vQ by_)]) (bL cc51 rfl) (fun w_ hB_ hS_ => dz (((gt l x15).iv).lo) by_ ((All.gt zl (bp _)).1).1 zby_ w_ ))
    · intro ξ hφ; exact aC (fa uu55 rfl zz53 rfl rfl rfl (k' := 9))
    · intro ξ hφ; exact cr [.blk b3 (cV ((gt l x15).iv)) 55] rfl rfl (aX aa53 zz53 rfl rfl rfl (v := (vR (((gt l x15).iv).hi))) rfl)
    · intro ξ hφ; exact cr [.blk b1 (cQ by_) 40] rfl rfl (aX aa40 zz40 rfl rfl rfl (v := (vQ by_)) rfl)
    · intro ξ hφ; exact dW (dr (bL cc51 rfl) (kk (dz (((gt l x15).iv).hi) by_ ((All.gt zl (bp _)).1).2 zby_)))
    · intro ξ hφ; exact aC (fa uu55 rfl zz53 rfl rfl rfl (k' := 0))
    · intro ξ hφ; exact gh [.blk b3 (cV ((gt l x15).iv)) 55] [.blk b3 (cV (⟨(aH (((gt l x15).iv).lo) by_), ((gt l x15).iv).hi, ((gt l x15).iv).openLo, ((gt l x15).iv).openHi⟩ : Iv)) 55] rfl rfl (gH zz53 rfl rfl rfl rfl rfl rfl rfl)
    · intro ξ hφ; exact aC (fa uu55 rfl zz53 rfl rfl rfl (k' := 9))
    · intro ξ hφ; exact gh [.blk b3 (cV (⟨(aH (((gt l x15).iv).lo) by_), ((gt l x15).iv).hi, ((gt l x15).iv).openLo, ((gt l x15).iv).openHi⟩ : Iv)) 55] [.blk b3 (cV (⟨(aH (((gt l x15).iv).lo) by_), (aH (((gt l x15).iv).hi) by_), ((gt l x15).iv).openLo, ((gt l x15).iv).openHi⟩ : Iv)) 55] rfl rfl (gH zz53 rfl rfl rfl rfl rfl rfl rfl)
    clear h ac wo; intro ξ ac wo hφ h
    replace h : St w0 44 [(0, (.iface 73 (.agg #[]))), (3, (.func (.func 53) #[] #[(ptr cp 0)])), (6, (ptr b1 0)), (9, outv), (13, lv), (14, (.int .i64 ((l.length : Nat) : Int))), (15, (.int .i64 ((x15 : Nat) : Int))), (11, (ptr b2 0)), (12, (ptr b3 0))] [.blk b3 (cV (⟨(aH (((gt l x15).iv).lo) by_), (aH (((gt l x15).iv).hi) by_), ((gt l x15).iv).openLo, ((gt l x15).iv).openHi⟩ : Iv)) 55, .blk b2 (cUD (gt l x15)) 87, .row (α := U Qd) 87 outv out, .blk b1 (cQ by_) 40] ac wo := (h.pick [0, 1, 2, 3] (by decide)).sub ⟨rfl, rfl, rfl, rfl, rfl, rfl, rfl, rfl, rfl, trivial⟩
    clear hφ ξ
    refine hK10 _ _ ?_
    have s4 := Calls.pr ((fun w_ hB_ hS_ => eS ((gt l x15).f) cp g_ (All.gt zl (bp _)).2 zg_ w_ (hcpp.below hB_)) _ h.bel h.sep)
    replace h := h.emps 1
    refine cv mixed [dv _, dw _ [0], dv _, dv _, dw _ [1], dv _, dv _, ⟨.nd (.one 7 fun v => NN v 1), [4]⟩, ⟨.nd (.con True), [2, 4]⟩, ⟨.nd (.two 9 8 fun a b => a = b), []⟩] [⟨_, []⟩, ⟨_, []⟩, ⟨.row (α := U Qd) 87 outv out, [(8, .one 8 fun v => .row (α := U Qd) 87 v (out ++ [(⟨(⟨(aH (((gt l x15).iv).lo) by_), (aH (((gt l x15).iv).hi) by_), ((gt l x15).iv).openLo, ((gt l x15).iv).openHi⟩ : Iv), (aS ((gt l x15).f) g_)⟩ : U Qd)]))]⟩, ⟨_, []⟩, ⟨.emp, [(7, .one 7 fun v => .row (α := U Qd) 87 v ([(⟨(⟨(aH (((gt l x15).iv).lo) by_), (aH (((gt l x15).iv).hi) by_), ((gt l x15).iv).openLo, ((gt l x15).iv).openHi⟩ : Iv), (aS ((gt l x15).f) g_)⟩ : U Qd)]))]⟩] h rfl (by kernel_rfl) ⟨fun _ _ => om rfl, fun _ _ => cr _ rfl rfl (aX aa55 zz55 rfl rfl rfl (v := (vV (⟨(aH (((gt l x15).iv).lo) by_), (aH (((gt l x15).iv).hi) by_), ((gt l x15).iv).openLo, ((gt l x15).iv).openHi⟩ : Iv))) rfl), fun _ _ => om rfl, fun _ _ => aC (fa uu87 rfl zz69 rfl rfl rfl (k' := 20)), fun _ _ => cr _ rfl rfl (aX aa69 zz69 rfl rfl rfl (v := (vD ((gt l x15).f))) rfl), fun _ _ => dW (dr (m5 (cap := [(ptr cp 0)]) Tryz.call53 rfl rfl) (fun w_ hB_ hS_ => eS ((gt l x15).f) cp g_ (All.gt zl (bp _)).2 zg_ w_ (hcpp.below hB_))), fun _ _ => aC (bC iM rfl rfl (v := (vUD (⟨(⟨(aH (((gt l x15).iv).lo) by_), (aH (((gt l x15).iv).hi) by_), ((gt l x15).iv).openLo, ((gt l x15).iv).openHi⟩ : Iv), (aS ((gt l x15).f) g_)⟩ : U Qd))) rfl), fun _ _ => kR (ψ := fun v => NN v 1) (B := fun v => [.row (α := U Qd) 87 v ([(⟨(⟨(aH (((gt l x15).iv).lo) by_), (aH (((gt l x15).iv).hi) by_), ((gt l x15).iv).openLo, ((gt l x15).iv).openHi⟩ : Iv), (aS ((gt l x15).f) g_)⟩ : U Qd)])]) [.emp] rfl (fun v _ => by simp only [ej, bB] <;> rfl) (fun v hv => by simpa [DF.one, bB] using hv) (jN (cK (α := U Qd) (xs := [.tmp 37]) (vs := [(vUD (⟨(⟨(aH (((gt l x15).iv).lo) by_), (aH (((gt l x15).iv).hi) by_), ((gt l x15).iv).openLo, ((gt l x15).iv).openHi⟩ : Iv), (aS ((gt l x15).f) g_)⟩ : U Qd))]) [(⟨(⟨(aH (((gt l x15).iv).lo) by_), (aH (((gt l x15).iv).hi) by_), ((gt l x15).iv).openLo, ((gt l x15).iv).openHi⟩ : Iv), (aS ((gt l x15).f) g_)⟩ : U Qd)] d9 rfl rfl rfl (by decide))), fun ξ hφ => kR (B := fun v => [.row (α := U Qd) 87 v (out ++ [(⟨(⟨(aH (((gt l x15).iv).lo) by_), (aH (((gt l x15).iv).hi) by_), ((gt l x15).iv).openLo, ((gt l x15).iv).openHi⟩ : Iv), (aS ((gt l x15).f) g_)⟩ : U Qd)]), .row (α := U Qd) 87 (ξ 7) ([(⟨(⟨(aH (((gt l x15).iv).lo) by_), (aH (((gt l x15).iv).hi) by_), ((gt l x15).iv).openLo, ((gt l x15).iv).openHi⟩ : Iv), (aS ((gt l x15).f) g_)⟩ : U Qd)])]) [.row (α := U Qd) 87 outv out, .row (α := U Qd) 87 (ξ 7) ([(⟨(⟨(aH (((gt l x15).iv).lo) by_), (aH (((gt l x15).iv).hi) by_), ((gt l x15).iv).openLo, ((gt l x15).iv).openHi⟩ : Iv), (aS ((gt l x15).f) g_)⟩ : U Qd)])] rfl (fun v _ => by simp only [ej, bB] <;> rfl) (fun _ _ => trivial) (er (xs := out) (ys := [(⟨(⟨(aH (((gt l x15).iv).lo) by_), (aH (((gt l x15).iv).hi) by_), ((gt l x15).iv).openLo, ((gt l x15).iv).openHi⟩ : Iv), (aS ((gt l x15).f) g_)⟩ : U Qd)]) d9 (fun w hs => (row_view hs 0 rfl)) rfl rfl (by first | omega | grind)), fun ξ hφ => ob_n (φ := .two 9 8 fun a b => a = b) (v := ξ 8) [] rfl rfl (by show upd ξ 9 (ξ 8) 9 = upd ξ 9 (ξ 8) 8; rw [bB, io (by decide)]) (ae rfl), trivial⟩ ?_
    clear h ac wo; intro ξ ac wo hφ h
    replace h : St w0 44 [(0, (.iface 73 (.agg #[]))), (3, (.func (.func 53) #[] #[(ptr cp 0)])), (6, (ptr b1 0)), (9, ξ 9), (13, lv), (14, (.int .i64 ((l.length : Nat) : Int))), (15, (.int .i64 ((x15 : Nat) : Int)))] [.blk b3 (cV (⟨(aH (((gt l x15).iv).lo) by_), (aH (((gt l x15).iv).hi) by_), ((gt l x15).iv).openLo, ((gt l x15).iv).openHi⟩ : Iv)) 55, .blk b2 (cUD (gt l x15)) 87, .row (α := U Qd) 87 (ξ 8) (out ++ [(⟨(⟨(aH (((gt l x15).iv).lo) by_), (aH (((gt l x15).iv).hi) by_), ((gt l x15).iv).openLo, ((gt l x15).iv).openHi⟩ : Iv), (aS ((gt l x15).f) g_)⟩ : U Qd)]), .blk b1 (cQ by_) 40] ac wo := (h.pick [0, 1, 2, 3] (by decide)).sub ⟨rfl, rfl, rfl, rfl, rfl, rfl, rfl, trivial⟩
    rw [show ξ 9 = ξ 8 from hφ 9] at h
    generalize hsv8 : ξ 8 = sv5 at h; clear hsv8
    clear hφ ξ
    refine gz h <| gN <| gx hK7 <| gR <| g0 (bM rfl rfl (r := ((x15 + 1 : Nat) : Int)) (by rw [IntKind.wrap_i64]; first | omega | grind)) rfl <| g0 (af rfl) rfl <| gx (fun _ _ => bR) ?_; clear h ac wo; intro ac wo h
    exact aM ⟨m1, (by omega), _, _, _, (by first | omega | grind), b0 hL1 (show ce l by_ g_ out x15 = .go _ from (cT hc1)), (by first | omega | grind), (All.app zout (All.cons ⟨⟨(cz s2 (by omega)), (cz s3 (by omega))⟩, s4⟩ All.nil)), (by rw [hu, oP (by omega), List.map_append]; rfl), (by first | omega | grind), (h.pick [2, 3] (by decide)).sub ⟨rfl, rfl, rfl, rfl, rfl, rfl, rfl, trivial⟩⟩
  · skip
    have hd1 := of_decide_eq_false hc1
    refine d8 ?_
    have hx1 := dX hL1 (show ce l by_ g_ out x15 = .out (out, x15) from (cF hc1))
    refine hK3 _ _ ?_
    refine dU fun K11 hK11 => ?_
    have hu2 : out = l.map (shB by_ g_) := by rw [hu, List.take_of_length_le (by omega)]
    have hul : out.length < 20 := by rw [hu2, List.length_map]; assumption
    have hnz : All (fI 30) out := by rw [hu2]; exact hz
    refine rd0 h (af rfl) rfl <| g0 (af rfl) rfl ?_; clear h ac wo; intro ac wo h
    have s6 := RetR.pr ((fun w_ hB_ hS_ => ey out outv (by first | omega | grind) hnz w_ (row_view hS_ 0 rfl)) _ h.bel h.sep)
    have p7 := s6.2
    refine lU (xs := (bQ out)) h (bL Tryz.call117 rfl) (fun w_ hB_ hS_ => ey out outv (by first | omega | grind) hnz w_ (row_view hS_ 0 rfl)) rfl ?_; clear h ac wo; intro sv8 ac wo _ h
    refine rd0 h (ae rfl) rfl <| gn hK11 <| gT ?_; clear h ac wo; intro ac wo h
    have hd : bY l by_ g_ = (bQ out) := (eQ (hX1.trans hx1))
    exact ret h rfl (.tmp rfl .nil) rfl (by rw [hd]; exact h.retR 0 rfl ⟨s6.1, (by first | omega | grind)⟩)
attribute [irreducible] bY
end Go.Sx
