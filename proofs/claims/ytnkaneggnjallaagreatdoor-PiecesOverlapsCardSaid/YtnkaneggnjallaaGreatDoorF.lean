/- A part of the proof that the law PiecesOverlaps answers true at every input and leaves its arguments as they were. -/
import Derived.Test.YtnkaneggnjallaaGreatDoorA7
import Derived.Test.YtnkaneggnjallaaGreatDoorM4
import Derived.Test.YtnkaneggnjallaaGreatDoorQ2
set_option linter.unusedVariables false
set_option linter.unusedSimpArgs false
open Go.Proofs.Tryz renaming runUnderlying51 → uu51, runUnderlying31 → uu31
namespace Go.Sx
open Go Go.RowKit Go.Proofs
set_option maxRecDepth 100000
set_option maxHeartbeats 40000000
attribute [local irreducible] ax ch aq aL cn bj aI bb cE bu aC
def dN (l : List Loo) (u : List (U Int)) (i : Nat) : Bool :=
 bif (ba u) then
  (((((((ay u).1).length : Nat) : Int)) == (((0 : Nat) : Int))) && (((ay u).2) == 11))
 else
  ((((ay u).2) == 0) && (bT ((ay u).1) (br u)))
def bi (l : List Loo) (u : List (U Int)) (i : Nat) : Nx ((List (U Int)) × Nat) Bool :=
 bif (decide (((i : Nat) : Int) < ((l.length : Nat) : Int))) then
  .go ((u ++ [(aP (gt l i))]), (i + 1))
 else
  .out (u, i)
def cd (l : List Loo) : Bool :=
 bif ((!dD) || (decide (((l.length : Nat) : Int) > 6))) then
  dD
 else
  fin (bM (fun s => bi l s.1 s.2) ((l.length - 0) + 1) ([], 0)) (fun s => dN l s.1 s.2) (fun r => r)
theorem fE (l : List Loo) (lv : Value) (w0 : World) (hlv : View w0 lv l) : Calls Tryz.prog 4 #[lv] w0 (ec w0 (.bool (cd l)) (True)) := by
 refine enter (N := 57) (args := [lv]) Tryz.func4 rfl rfl ?_; intro ac h
 have hlenl := hlv.len
 refine dQ fun K1 hK1 => ?_
 refine rd0 h (ag rfl) rfl <| gn hK1 <| gq fun K2 hK2 => gr fun K3 hK3 => gc (cB Tryz.call14 rfl) (kk (fH)) rfl <| g0 (eM rfl) rfl <| g0 (af rfl) rfl <| ge2 rfl rfl (fun hg => (Rd.of_nil (af rfl)).step) rfl <| ge2 rfl rfl (fun hg => (Rd.of_nil (db uu51 (aj rfl hg) hlv.sl)).step) rfl <| ge2 rfl rfl (fun hg => (Rd.of_nil (gY (aj rfl hg) rfl)).step) rfl <| g0 (r_or rfl (fun e => (aj rfl (notI e)))) rfl <| gn hK3 ?_; clear h ac; intro ac wo h
 refine cN h rfl (fun hc1 => ?_) (fun hc1 => ?_)
 ·
  have hq1 := hc1; try simp at hq1
  refine gz h <| gr fun K4 hK4 => gc (cB Tryz.call14 rfl) (kk (fH)) rfl <| g0 (ag rfl) rfl <| gn hK4 <| gT ?_; clear h ac wo; intro ac wo h
  have hd : cd l = dD := (cT hc1)
  exact ret h rfl (.tmp rfl .nil) rfl (h.retP (by rw [hd] <;> rfl) trivial)
 ·
  have hq1 := hc1; try simp at hq1
  refine gz h <| gS <| gx hK2 <| gr fun K5 hK5 => g0 (ag rfl) rfl <| gn hK5 <| gq fun K6 hK6 => gr fun K7 hK7 => g0 (ag rfl) rfl <| gn hK7 <| gB ?_; clear h ac wo; intro ac wo h
  replace h := h.nilRow (α := U Int) 57
  obtain ⟨X1, hX1⟩ : ∃ X, bM (fun s => bi l s.1 s.2) ((l.length - 0) + 1) ([], 0) = X := ⟨_, rfl⟩
  refine wp_loop_ghost (fun n_ a_ w_ => ∃ (u : List (U Int)) (i : Nat) (uv : Value), ((l.length - i) < n_) ∧ (bM (fun s => bi l s.1 s.2) n_ (u, i) = X1) ∧ (i ≤ l.length) ∧ (All (iH 30) u) ∧ (u = (l.take i).map aP) ∧ St w0 57 [(0, lv), (3, uv), (4, (.int .i64 ((i : Nat) : Int)))] [.row (α := U Int) 57 uv u] a_ w_) ((l.length - 0) + 1) ⟨[], 0, (.slice none 0 0), (by omega), hX1, (by first | omega | assumption | grind), All.nil, rfl, (h.sub ⟨rfl, rfl, rfl, trivial⟩)⟩ ?_
  clear h ac wo; rintro n1 ac wo ⟨u, i, uv, hm1, hL1, hi, zu, hu, h⟩
  obtain ⟨m1, rfl⟩ : ∃ m, n1 = m + 1 := ⟨n1 - 1, by omega⟩
  refine gz h <| gq fun K8 hK8 => gr fun K9 hK9 => g0 (af rfl) rfl <| g0 (af rfl) rfl <| g0 (db uu51 rfl hlv.sl) rfl <| g0 (dx rfl rfl) rfl <| gn hK9 ?_; clear h ac wo; intro ac wo h
  refine cN h rfl (fun hc2 => ?_) (fun hc2 => ?_)
  ·
   have hd2 := of_decide_eq_true hc2
   refine dM ?_
   refine hK8 _ _ ?_
   refine cH fun K10 hK10 => ?_
   refine eI ?_
   refine c_r ?_
   have hul : u.length = i := by rw [hu, List.length_map, List.length_take]; omega
   have c2 := gF (gt l i)
   have s2 := Calls.pr (c2 w0)
   refine rd0 h (af rfl) rfl <| g0 (af rfl) rfl <| g0 (af rfl) rfl <| g0 (cZ (i := i) uu51 Tryz.sizeOf59 rfl rfl (hlv.nn (i := i) (by first | omega | assumption | grind)) (by first | omega | assumption | grind)) rfl <| g0 (eB (k := 0) Tryz.isAgg59 Tryz.sizeOf59 hlv (bk (by first | omega | assumption | grind)) rfl (Nat.add_zero _) rfl rfl (v := (vL (gt l i))) rfl) rfl <| gc (cB Tryz.call26 rfl) (kk c2) rfl ?_; clear h ac wo; intro ac wo h
   refine nw h (cg (α := U Int) (xs := [.tmp 26]) (vs := [(vUI (aP (gt l i)))]) [(aP (gt l i))] eZ rfl rfl rfl (by decide)) rfl ?_; clear h ac wo; intro sv3 ac wo nnsv3 h
   refine on2 h 1 0 rfl rfl (dY (xs := u) (ys := [(aP (gt l i))]) eZ (fun w hs => (row_view hs 0 rfl)) rfl rfl (by first | omega | assumption | grind)) rfl ?_; clear h ac wo; intro sv4 ac wo apsv4 h
   refine rd0 h (ag rfl) rfl <| gx (fun _ _ => bn) <| gN <| gx hK10 <| gR <| g0 (af rfl) rfl <| g0 (bt rfl rfl (r := ((i + 1 : Nat) : Int)) (by rw [IntKind.wrap_i64]; first | omega | grind)) rfl <| g0 (ag rfl) rfl <| gx (fun _ _ => bn) ?_; clear h ac wo; intro ac wo h
   exact aD ⟨m1, (by omega), _, _, _, (by first | omega | assumption | grind), bI hL1 (show bi l u i = .go _ from (cT hc2)), (by first | omega | assumption | grind), (All.app zu (All.cons s2 All.nil)), (by rw [hu, take_gt2 (by omega), List.map_append]; rfl), (h.pick [0] (by decide)).sub ⟨rfl, rfl, rfl, trivial⟩⟩
  ·
   have hd2 := of_decide_eq_false hc2
   refine dC ?_
   have hx1 := de hL1 (show bi l u i = .out (u, i) from (cF hc2))
   refine hK6 _ _ ?_
   refine dQ fun K11 hK11 => ?_
   have hu2 : u = l.map aP := by rw [hu, List.take_of_length_le (by omega)]
   have hul2 : u.length = l.length := by rw [hu2, List.length_map]
   refine rd0 h (bK bld31 rfl rfl (v := .agg #[]) rfl) rfl <| g0 (k7 uu31 rfl rfl (v := (.agg #[]))) rfl <| g0 (af rfl) rfl ?_; clear h ac wo; intro ac wo h
   have s5 := RetT.pr ((fun w_ hB_ hS_ => fL u uv (by first | omega | assumption | grind) zu w_ (row_view hS_ 0 rfl)) _ h.bel h.sep)
   have p6 := s5.2
   refine c_tup (xs := (ay u).1) h (cB Tryz.call16 rfl) (fun w_ hB_ hS_ => fL u uv (by first | omega | assumption | grind) zu w_ (row_view hS_ 0 rfl)) rfl ?_; clear h ac wo; intro sv7 ac wo _ h
   refine rd0 h (af rfl) rfl <| g0 (bA rfl rfl) rfl <| g0 (bA rfl rfl) rfl <| g0 (ag rfl) rfl <| g0 (ag rfl) rfl <| gn hK11 <| gq fun K12 hK12 => gr fun K13 hK13 => g0 (af rfl) rfl <| gc (cB Tryz.call27 rfl) (fun w_ hB_ hS_ => fS u uv (by first | omega | assumption | grind) zu w_ (row_view hS_ 1 rfl)) rfl <| gn hK13 ?_; clear h ac wo; intro ac wo h
   refine cN h rfl (fun hc3 => ?_) (fun hc3 => ?_)
   ·
    have hq3 := hc3; try simp at hq3
    refine gz h <| gr fun K14 hK14 => g0 (af rfl) rfl ?_; clear h ac wo; intro ac wo h
    refine rd0 h (db Tryz.runUnderlying26 rfl (h.row_sl 0 rfl)) rfl <| g0 (fF rfl rfl (m := ((((ay u).1).length : Nat) : Int)) (n := ((0 : Nat) : Int))) rfl <| g0 (af rfl) rfl <| ge1 rfl rfl (fun hg => (Rd.of_nil (af rfl)).step) rfl <| ge1 rfl rfl (fun hg => (Rd.of_nil (fF (aj rfl hg) rfl)).step) rfl <| g0 (df rfl (fun e => (aj rfl e))) rfl <| g0 (ag rfl) rfl <| gn hK14 ?_; clear h ac wo; intro ac wo h
    replace h := h.sub (F' := [(2, (.bool (((((((ay u).1).length : Nat) : Int)) == (((0 : Nat) : Int))) && (((ay u).2) == 11))))]) ⟨rfl, trivial⟩
    refine fh ?_
    have hd : cd l = (((((((ay u).1).length : Nat) : Int)) == (((0 : Nat) : Int))) && (((ay u).2) == 11)) := (Eq.trans (cF hc1) (Eq.trans (eo (hX1.trans hx1)) (cT hc3)))
    exact ret h rfl (.tmp rfl .nil) rfl (h.retP (by rw [hd] <;> rfl) trivial)
   ·
    have hq3 := hc3; try simp at hq3
    refine dM ?_
    refine hK12 _ _ ?_
    refine dQ fun K15 hK15 => ?_
    have hE : (ay u).2 = 0 := by rw [hu2, (m8 l).2 (by rw [← hu2]; assumption)]
    refine rd0 h (af rfl) rfl <| g0 (fF rfl rfl) rfl <| g0 (af rfl) rfl ?_; clear h ac wo; intro ac wo h
    refine gK (j := 2) (c := true) (b := (((ay u).2) == 0)) (g := (((ay u).2) == 0)) h rfl rfl g_t (by rw [hE]; rfl) ?_
    refine rd0 h (bK bld31 rfl rfl (v := .agg #[]) rfl) rfl ?_; clear h ac wo; intro ac wo h
    refine gK (j := 2) (c := true) (b := (((ay u).2) == 0)) (g := (((ay u).2) == 0)) h rfl rfl g_t (by rw [hE]; rfl) ?_
    refine rd0 h (k7 uu31 rfl rfl (v := (.agg #[]))) rfl ?_; clear h ac wo; intro ac wo h
    refine gK (j := 2) (c := true) (b := (((ay u).2) == 0)) (g := (((ay u).2) == 0)) h rfl rfl g_t (by rw [hE]; rfl) ?_
    refine rd0 h (af rfl) rfl ?_; clear h ac wo; intro ac wo h
    refine gK (j := 2) (c := true) (b := (((ay u).2) == 0)) (g := (((ay u).2) == 0)) h rfl rfl g_t (by rw [hE]; rfl) ?_
    refine rd0 h (bK bld31 rfl rfl (v := .agg #[]) rfl) rfl ?_; clear h ac wo; intro ac wo h
    refine gK (j := 2) (c := true) (b := (((ay u).2) == 0)) (g := (((ay u).2) == 0)) h rfl rfl g_t (by rw [hE]; rfl) ?_
    refine rd0 h (k7 uu31 rfl rfl (v := (.agg #[]))) rfl ?_; clear h ac wo; intro ac wo h
    refine gK (j := 2) (c := true) (b := (((ay u).2) == 0)) (g := (((ay u).2) == 0)) h rfl rfl g_t (by rw [hE]; rfl) ?_
    refine rd0 h (af rfl) rfl ?_; clear h ac wo; intro ac wo h
    refine gK (j := 2) (c := true) (b := (((ay u).2) == 0)) (g := (((ay u).2) == 0)) h rfl rfl g_t (by rw [hE]; rfl) ?_
    have s8 := RetR.pr ((fun w_ hB_ hS_ => eO u uv (by first | omega | assumption | grind) zu w_ (row_view hS_ 1 rfl)) _ h.bel h.sep)
    have p9 := s8.2
    refine kE (xs := (br u)) h (cB Tryz.call23 rfl) (fun w_ hB_ hS_ => eO u uv (by first | omega | assumption | grind) zu w_ (row_view hS_ 1 rfl)) rfl ?_; clear h ac wo; intro sv10 ac wo _ h
    refine gK (j := 2) (c := true) (b := (((ay u).2) == 0)) (g := (((ay u).2) == 0)) h rfl rfl g_t (by rw [hE]; rfl) ?_
    refine mN h (cB Tryz.call22 rfl) (fun w_ hB_ hS_ => gV ((ay u).1) sv7 (br u) sv10 s5.1 s8.1 w_ (row_view hS_ 1 rfl) (row_view hS_ 0 rfl)) rfl <| g0 (df rfl (fun e => rfl)) rfl <| g0 (ag rfl) rfl <| gn hK15 ?_; clear h ac wo; intro ac wo h
    replace h := h.sub (F' := [(2, (.bool ((((ay u).2) == 0) && (bT ((ay u).1) (br u)))))]) ⟨rfl, trivial⟩
    refine fh ?_
    have hd : cd l = ((((ay u).2) == 0) && (bT ((ay u).1) (br u))) := (Eq.trans (cF hc1) (Eq.trans (eo (hX1.trans hx1)) (cF hc3)))
    exact ret h rfl (.tmp rfl .nil) rfl (h.retP (by rw [hd] <;> rfl) trivial)
attribute [irreducible] cd
end Go.Sx
