/- A part of the proof of piecesMoments. -/
import Derived.Test.YtbenbmdkhcfcfaaGreatDoorA7
import Derived.Test.YtbenbmdkhcfcfaaGreatDoorHb
import Derived.Test.YtbenbmdkhcfcfaaGreatDoorY
import Derived.Test.YtbenbmdkhcfcfaaGreatDoorN1
import Derived.Test.YtbenbmdkhcfcfaaGreatDoorProg
set_option linter.unusedVariables false
set_option linter.unusedSimpArgs false
open Go.Proofs.Tryz renaming zeroValue86 → vv86, runUnderlying206 → uu206, sizeOf71 → zz71, sizeOf4 → zz4, isAgg4 → aa4, sizeOf86 → zz86, isAgg86 → aa86, runUnderlying321 → uu321, sizeOf206 → zz206, isAgg206 → aa206, runUnderlying317 → uu317, sizeOf321 → zz321, isAgg321 → aa321, isAgg3 → aa3, sizeOf3 → zz3, underlying317 → nn317, runUnderlying318 → uu318, sizeOf103 → zz103, runUnderlying103 → uu103, zeroValue321 → vv321, sizeOf319 → zz319, runUnderlying319 → uu319
open Go.IntKind renaming wrap_i64 → wI
namespace Go.Sx
open Go Go.RowKit Go.Proofs
set_option maxRecDepth 100000
set_option maxHeartbeats 40000000
attribute [local irreducible] aE bM ap aT aJ dF
def cc (a : Bd) (b : Bd) : Iv :=
 (⟨a.at_, b.at_, a.behind, (!b.behind)⟩ : Iv)
theorem l6 (a : Bd) (b : Bd) (za : SzW 30 a) (zb : SzW 30 b) (w0 : World)  : Calls Tryz.prog 247 #[(vW a), (vW b)] w0 (RetP w0 (vV (cc a b)) (SzV 30 (cc a b))) := by
 refine enter (N := 15) (args := [(vW a), (vW b)]) Tryz.func247 rfl rfl ?_; intro ac h
 refine ej fun K1 hK1 => ?_
 refine bx h (cW a) rfl rfl rfl fun b1 => gb (cW b) rfl rfl rfl fun b2 => ga (cV (⟨(⟨oQ, oQ, false⟩ : GR), (⟨oQ, oQ, false⟩ : GR), false, false⟩ : Iv)) vv86 rfl rfl fun b3 => gn hK1 <| gr fun K2 hK2 => g0 (fa uu206 rfl zz71 rfl rfl rfl (k' := 0)) rfl <| g1 2 rfl (ba Tryz.isAgg71 zz71 rfl rfl rfl (v := (vR a.at_)) rfl) rfl <| g0 (fa uu206 rfl zz71 rfl rfl rfl (k' := 0)) rfl <| g1 1 rfl (ba Tryz.isAgg71 zz71 rfl rfl rfl (v := (vR b.at_)) rfl) rfl <| g0 (fa uu206 rfl zz4 rfl rfl rfl (k' := 9)) rfl <| g1 2 rfl (ba aa4 zz4 rfl rfl rfl (v := (.bool a.behind)) rfl) rfl <| g0 (fa uu206 rfl zz4 rfl rfl rfl (k' := 9)) rfl <| g1 1 rfl (ba aa4 zz4 rfl rfl rfl (v := (.bool b.behind)) rfl) rfl <| g0 (gG rfl) rfl <| g0 (cg pk rfl rfl (v := (vV (⟨a.at_, b.at_, a.behind, (!b.behind)⟩ : Iv))) rfl) rfl <| gs 0 (cV (⟨a.at_, b.at_, a.behind, (!b.behind)⟩ : Iv)) rfl zz86 rfl rfl rfl rfl rfl rfl rfl <| gn hK2 <| gT ?_; clear h ac; intro ac wo h
 exact ret h rfl (.cell (v := (vV (⟨a.at_, b.at_, a.behind, (!b.behind)⟩ : Iv))) rfl (i := 0) rfl aa86 zz86 rfl rfl rfl .nil) rfl (h.retP (by unfold cc; rfl) (by unfold cc; exact ⟨za, zb⟩))
attribute [irreducible] cc
def cm (x : Ev) (y : Ev) : Int :=
 (aR x.at_ y.at_)
theorem iG (x : Ev) (y : Ev) (zx : SzE 30 x) (zy : SzE 30 y) (w0 : World)  : Calls Tryz.prog 246 #[(vE x), (vE y)] w0 (RetP w0 (.int .i64 (cm x y)) ((-1 ≤ (cm x y) ∧ (cm x y) ≤ 1))) := by
 refine enter (N := 10) (args := [(vE x), (vE y)]) Tryz.func246 rfl rfl ?_; intro ac h
 have c1 := dD x.at_ y.at_ zx zy
 have s1 := Calls.pr (c1 w0)
 have p2 := s1
 refine ej fun K1 hK1 => ?_
 refine bx h (cE x) rfl rfl rfl fun b1 => gb (cE y) rfl rfl rfl fun b2 => g0 (aj rfl) rfl <| gn hK1 <| gr fun K2 hK2 => g0 (fa uu321 rfl zz206 rfl rfl rfl (k' := 0)) rfl <| g1 1 rfl (ba aa206 zz206 rfl rfl rfl (v := (vW x.at_)) rfl) rfl <| g0 (fa uu321 rfl zz206 rfl rfl rfl (k' := 0)) rfl <| g1 0 rfl (ba aa206 zz206 rfl rfl rfl (v := (vW y.at_)) rfl) rfl <| gc (bF Tryz.call135 rfl) (kk c1) rfl <| g0 (aj rfl) rfl <| gn hK2 <| gT ?_; clear h ac; intro ac wo h
 exact ret h rfl (.tmp rfl .nil) rfl (h.retP (by unfold cm; rfl) (by unfold cm; exact (by omega)))
attribute [irreducible] cm
def gP (data : List Ev) (a : Nat) (b : Nat) (i : Nat) (data1 : List Ev) : List Ev :=
 data1
def gO (data : List Ev) (a : Nat) (b : Nat) (i : Nat) (data1 : List Ev) (j : Nat) (data2 : List Ev) : Nx (Nat × (List Ev)) (List Ev) :=
 .go ((i + 1), data2)
def db (data : List Ev) (a : Nat) (b : Nat) (i : Nat) (data1 : List Ev) (j : Nat) (data2 : List Ev) : Nx (Nat × (List Ev)) (List Ev) :=
 bif ((decide (((j : Nat) : Int) > ((a : Nat) : Int))) && (decide ((cm (gt data2 j) (gt data2 (j - 1))) < 0))) then
  .go ((j - 1), ((data2.set j (gt data2 (j - 1))).set (j - 1) (gt data2 j)))
 else
  .out (j, data2)
def dc (data : List Ev) (a : Nat) (b : Nat) (i : Nat) (data1 : List Ev) : Nx (Nat × (List Ev)) (List Ev) :=
 bif (decide (((i : Nat) : Int) < ((b : Nat) : Int))) then
  fin (bR (fun s => db data a b i data1 s.1 s.2) (i + 1) (i, data1)) (fun s => gO data a b i data1 s.1 s.2) (fun r => .ret r)
 else
  .out (i, data1)
def bH (data : List Ev) (a : Nat) (b : Nat) : List Ev :=
 fin (bR (fun s => dc data a b s.1 s.2) ((b + 1 - (a + 1)) + 1) ((a + 1), data)) (fun s => gP data a b s.1 s.2) (fun r => r)
theorem gM (data : List Ev) (datav : Value) (a : Nat) (b : Nat) (hab : a ≤ b) (hb : b ≤ data.length) (hb2 : b ≤ 1000) (zdata : All (SzE 30) data) (w0 w : World) (B : Asn) (hbel : Below w0.heap.size w0 w) (hsep : ∃ Z_, Sep w0.heap.size w [.row (α := Ev) 321 datav data, B] Z_)  : Calls Tryz.prog 297 #[datav, (.int .i64 ((a : Nat) : Int)), (.int .i64 ((b : Nat) : Int)), (.func (.func 246) #[] #[])] w (RetY w0 (fun v => v = .tuple #[] ∧ (All (SzE 30) (bH data a b) ∧ (bH data a b).length = data.length)) (fun v => [.row (α := Ev) 321 datav (bH data a b), B])) := by
 refine ld (N := 53) (args := [datav, (.int .i64 ((a : Nat) : Int)), (.int .i64 ((b : Nat) : Int)), (.func (.func 246) #[] #[])]) Tryz.func297 rfl rfl hbel hsep ?_; intro ac h
 have hlendata := h.len 0 rfl
 refine ej fun K1 hK1 => ?_
 refine rd0 h (ak rfl) rfl <| g0 (ch rfl rfl (r := ((a + 1 : Nat) : Int)) (by rw [wI]; omega)) rfl <| g0 (aj rfl) rfl <| gn hK1 <| gB ?_; clear h ac; intro ac wo h
 obtain ⟨X1, hX1⟩ : ∃ X, bR (fun s => dc data a b s.1 s.2) ((b + 1 - (a + 1)) + 1) ((a + 1), data) = X := ⟨_, rfl⟩
 refine wp_loop_ghost (fun n_ a_ w_ => ∃ (i : Nat) (data1 : List Ev), ((b + 1 - i) < n_) ∧ (bR (fun s => dc data a b s.1 s.2) n_ (i, data1) = X1) ∧ (i ≤ b + 1) ∧ (All (SzE 30) data1) ∧ (data1.length = data.length) ∧ St w0 53 [(0, datav), (1, (.int .i64 ((a : Nat) : Int))), (2, (.int .i64 ((b : Nat) : Int))), (3, (.func (.func 246) #[] #[])), (8, (.int .i64 ((i : Nat) : Int)))] [.row (α := Ev) 321 datav data1, B] a_ w_) ((b + 1 - (a + 1)) + 1) ⟨(a + 1), data, (by omega), hX1, (by omega), zdata, (by omega), (h.sub ⟨rfl, rfl, rfl, rfl, rfl, trivial⟩)⟩ ?_
 clear h ac wo; rintro n1 ac wo ⟨i, data1, hm1, hL1, hi, zdata1, hdl, h⟩
 obtain ⟨m1, rfl⟩ : ∃ m, n1 = m + 1 := ⟨n1 - 1, by omega⟩
 refine gz h <| gq fun K2 hK2 => gr fun K3 hK3 => g0 (ak rfl) rfl <| g0 (ak rfl) rfl <| g0 (d5 rfl rfl) rfl <| gn hK3 ?_; clear h ac wo; intro ac wo h
 refine dA h rfl (fun hc1 => ?_) (fun hc1 => ?_)
 ·
  have hd1 := of_decide_eq_true hc1
  refine gz h <| gS <| gx hK2 <| gq fun K4 hK4 => gB <| gr fun K5 hK5 => g0 (ak rfl) rfl <| g0 (aj rfl) rfl <| gn hK5 <| gB ?_; clear h ac wo; intro ac wo h
  obtain ⟨X2, hX2⟩ : ∃ X, bR (fun s => db data a b i data1 s.1 s.2) (i + 1) (i, data1) = X := ⟨_, rfl⟩
  refine wp_loop_ghost (fun n_ a_ w_ => ∃ (j : Nat) (data2 : List Ev), (j < n_) ∧ (bR (fun s => db data a b i data1 s.1 s.2) n_ (j, data2) = X2) ∧ (All (SzE 30) data2) ∧ (j ≤ i) ∧ (data2.length = data.length) ∧ St w0 53 [(0, datav), (1, (.int .i64 ((a : Nat) : Int))), (2, (.int .i64 ((b : Nat) : Int))), (3, (.func (.func 246) #[] #[])), (8, (.int .i64 ((i : Nat) : Int))), (9, (.int .i64 ((j : Nat) : Int)))] [.row (α := Ev) 321 datav data2, B] a_ w_) (i + 1) ⟨i, data1, (by omega), hX2, zdata1, (by omega), (by omega), (h.sub ⟨rfl, rfl, rfl, rfl, rfl, rfl, trivial⟩)⟩ ?_
  clear h ac wo; rintro n2 ac wo ⟨j, data2, hm2, hL2, zdata2, hj, hdl2, h⟩
  obtain ⟨m2, rfl⟩ : ∃ m, n2 = m + 1 := ⟨n2 - 1, by omega⟩
  refine dV fun K6 hK6 => ?_
  refine dV fun K7 hK7 => ?_
  have s1 := Calls.pr ((fun w_ hB_ hS_ => iG (gt data2 j) (gt data2 (j - 1)) (All.gt zdata2 (mC _)) (All.gt zdata2 (mC _)) w_ ) _ h.bel h.sep)
  have p2 := s1
  refine cZ mixed [dv _, dv _, dv _, dv _, dv _, dv _, dv _, dv _, dw _ [0], dv _, dv _, dv _, dv _, dw _ [0], dv _, dv _, dv _] [⟨_, []⟩, ⟨_, []⟩] h rfl (by kernel_rfl) ⟨fun _ _ => om rfl, fun _ _ => om rfl, fun _ _ => aL (ko rfl rfl), fun _ _ => om rfl, fun _ _ => oh rfl rfl rfl rfl (fun hg => ak rfl), fun _ _ => oh rfl rfl rfl rfl (fun hg => ak rfl), fun _ _ => oh rfl rfl rfl rfl (fun hg => ak rfl), fun _ _ => oh rfl rfl rfl rfl (fun hg => eC (i := j) uu317 zz321 (aN rfl hg) (aN rfl hg) (h.row_nn 0 rfl (by first | omega | (simp at hg; omega) | grind)) (by first | omega | (simp at hg; omega) | grind)), fun _ _ => oh rfl rfl rfl rfl (fun hg => dX (k := 0) aa321 zz321 (cK (by first | omega | (simp at hg; omega) | grind)) (aN rfl hg) (Nat.add_zero _) rfl rfl (v := (vE (gt data2 j))) rfl), fun _ _ => oh rfl rfl rfl rfl (fun hg => ak rfl), fun _ _ => oh rfl rfl rfl rfl (fun hg => ak rfl), fun _ _ => oh rfl rfl rfl rfl (fun hg => eQ (aN rfl hg) rfl (r := (((j - 1) : Nat) : Int)) (by rw [wI]; first | omega | (simp at hg; omega) | grind)), fun _ _ => oh rfl rfl rfl rfl (fun hg => eC (i := (j - 1)) uu317 zz321 (aN rfl hg) (aN rfl hg) (h.row_nn 0 rfl (by first | omega | (simp at hg; omega) | grind)) (by first | omega | (simp at hg; omega) | grind)), fun _ _ => oh rfl rfl rfl rfl (fun hg => dX (k := 0) aa321 zz321 (cK (by first | omega | (simp at hg; omega) | grind)) (aN rfl hg) (Nat.add_zero _) rfl rfl (v := (vE (gt data2 (j - 1)))) rfl), fun _ _ => og1 rfl rfl rfl rfl (fun hg => dy (nl (cap := []) Tryz.call246 (aN rfl hg) (cH (aN rfl hg) (cH (aN rfl hg) rfl))) (kk (iG (gt data2 j) (gt data2 (j - 1)) (All.gt zdata2 (mC _)) (All.gt zdata2 (mC _))))), fun _ _ => oh rfl rfl rfl rfl (fun hg => d5 (aN rfl hg) rfl), fun _ _ => aL (fw rfl (fun e => (aN rfl e))), trivial⟩ ?_
  clear h ac wo; intro ξ ac wo hφ h
  replace h : St w0 53 [(0, datav), (1, (.int .i64 ((a : Nat) : Int))), (2, (.int .i64 ((b : Nat) : Int))), (3, (.func (.func 246) #[] #[])), (8, (.int .i64 ((i : Nat) : Int))), (9, (.int .i64 ((j : Nat) : Int))), (34, (.bool ((decide (((j : Nat) : Int) > ((a : Nat) : Int))) && (decide ((cm (gt data2 j) (gt data2 (j - 1))) < 0)))))] [.row (α := Ev) 321 datav data2, B] ac wo := (h.pick [0, 1] (by decide)).sub ⟨rfl, rfl, rfl, rfl, rfl, rfl, rfl, trivial⟩
  clear hφ ξ
  refine hK7 _ _ ?_
  refine dA h rfl (fun hc2 => ?_) (fun hc2 => ?_)
  ·
   have hq2 := hc2; try simp at hq2
   refine eL ?_
   refine hK6 _ _ ?_
   refine dV fun K8 hK8 => ?_
   refine gg ?_
   refine cZ mixed [dv _, dv _, dv _, dv _, dv _, dv _, dv _, dv _, dv _, dw _ [0], dv _, dv _, dv _, dw _ [0], dv _, dw _ [0], dv _, dw _ [0]] [⟨.row (α := Ev) 321 datav data2, [(15, .con (.row (α := Ev) 321 datav (data2.set j (gt data2 (j - 1))))), (17, .con (.row (α := Ev) 321 datav ((data2.set j (gt data2 (j - 1))).set (j - 1) (gt data2 j))))]⟩, ⟨_, []⟩] h rfl (by kernel_rfl) ⟨fun _ _ => om rfl, fun _ _ => om rfl, fun _ _ => om rfl, fun _ _ => om rfl, fun _ _ => aL (eQ rfl rfl (r := (((j - 1) : Nat) : Int)) (by rw [wI]; first | omega | grind)), fun _ _ => om rfl, fun _ _ => om rfl, fun _ _ => aL (eQ rfl rfl (r := (((j - 1) : Nat) : Int)) (by rw [wI]; first | omega | grind)), fun _ _ => aL (eC (i := (j - 1)) uu317 zz321 rfl rfl (h.row_nn 0 rfl (by first | omega | grind)) (by first | omega | grind)), fun _ _ => cY _ rfl rfl (dX (k := 0) aa321 zz321 (cK (by first | omega | grind)) rfl (Nat.add_zero _) rfl rfl (v := (vE (gt data2 (j - 1)))) rfl), fun _ _ => om rfl, fun _ _ => om rfl, fun _ _ => aL (eC (i := j) uu317 zz321 rfl rfl (h.row_nn 0 rfl (by first | omega | grind)) (by first | omega | grind)), fun _ _ => cY _ rfl rfl (dX (k := 0) aa321 zz321 (cK (by first | omega | grind)) rfl (Nat.add_zero _) rfl rfl (v := (vE (gt data2 j))) rfl), fun _ _ => aL (eC (i := j) uu317 zz321 rfl rfl (h.row_nn 0 rfl (by first | omega | grind)) (by first | omega | grind)), fun _ _ => gF _ [.row (α := Ev) 321 datav (data2.set j (gt data2 (j - 1)))] rfl rfl (ip (k := 0) (u' := (gt data2 (j - 1))) zz321 (cK (by first | omega | grind)) rfl (Nat.add_zero _) rfl rfl rfl rfl rfl rfl), fun _ _ => aL (eC (i := (j - 1)) uu317 zz321 rfl rfl (h.row_nn 0 rfl (by first | omega | grind)) (by first | omega | grind)), fun _ _ => gF _ [.row (α := Ev) 321 datav ((data2.set j (gt data2 (j - 1))).set (j - 1) (gt data2 j))] rfl rfl (ip (k := 0) (u' := (gt data2 j)) zz321 (cK (by first | omega | grind)) rfl (Nat.add_zero _) rfl rfl rfl rfl rfl rfl), trivial⟩ ?_
   clear h ac wo; intro ξ ac wo hφ h
   replace h : St w0 53 [(0, datav), (1, (.int .i64 ((a : Nat) : Int))), (2, (.int .i64 ((b : Nat) : Int))), (3, (.func (.func 246) #[] #[])), (8, (.int .i64 ((i : Nat) : Int))), (9, (.int .i64 ((j : Nat) : Int)))] [.row (α := Ev) 321 datav ((data2.set j (gt data2 (j - 1))).set (j - 1) (gt data2 j)), B] ac wo := (h.pick [0, 1] (by decide)).sub ⟨rfl, rfl, rfl, rfl, rfl, rfl, trivial⟩
   clear hφ ξ
   refine gz h <| gN <| gx hK8 <| gR <| g0 (ak rfl) rfl <| g0 (eQ rfl rfl (r := (((j - 1) : Nat) : Int)) (by rw [wI]; omega)) rfl <| g0 (aj rfl) rfl <| gx (fun _ _ => bV) ?_; clear h ac wo; intro ac wo h
   exact aU ⟨m2, (by omega), _, _, (by first | omega | grind), co hL2 (show db data a b i data1 j data2 = .go _ from (cT hc2)), (All.set (All.set zdata2 (All.gt zdata2 (mC _))) (All.gt zdata2 (mC _))), (by first | omega | grind), (by first | omega | grind), (h.pick [0, 1] (by decide)).sub ⟨rfl, rfl, rfl, rfl, rfl, rfl, trivial⟩⟩
  ·
   have hq2 := hc2; try simp at hq2
   refine ep ?_
   have hx2 := dU hL2 (show db data a b i data1 j data2 = .out (j, data2) from (cF hc2))
   refine gz h <| gx hK4 <| gR <| g0 (ak rfl) rfl <| g0 (ch rfl rfl (r := ((i + 1 : Nat) : Int)) (by rw [wI]; omega)) rfl <| g0 (aj rfl) rfl <| gx (fun _ _ => bV) ?_; clear h ac wo; intro ac wo h
   exact aU ⟨m1, (by omega), _, _, (by omega), co hL1 (show dc data a b i data1 = .go _ from (Eq.trans (cT hc1) (eV (hX2.trans hx2)))), (by omega), zdata2, (by omega), (h.pick [0, 1] (by decide)).sub ⟨rfl, rfl, rfl, rfl, rfl, trivial⟩⟩
 ·
  have hd1 := of_decide_eq_false hc1
  refine ep ?_
  have hx1 := dU hL1 (show dc data a b i data1 = .out (i, data1) from (cF hc1))
  have hd : bH data a b = data1 := (eV (hX1.trans hx1))
  exact retN (vs := []) h rfl .nil rfl ((h.pick [0, 1] (by decide)).retY ⟨rfl, (by rw [hd]; exact ⟨zdata1, (by omega)⟩)⟩ (by rw [hd]; rfl))
attribute [irreducible] bH
def bu (a : Bool) (b : Bool) : Bool :=
 (a || b)
theorem l7 (a : Bool) (b : Bool) (w0 : World)  : Calls Tryz.prog 244 #[(.bool a), (.bool b)] w0 (RetP w0 (.bool (bu a b)) (True)) := by
 refine enter (N := 9) (args := [(.bool a), (.bool b)]) Tryz.func244 rfl rfl ?_; intro ac h
 refine ej fun K1 hK1 => ?_
 refine rd0 h (aj rfl) rfl <| gn hK1 <| gr fun K2 hK2 => g0 (ak rfl) rfl <| g0 (ak rfl) rfl <| ge2 rfl rfl (fun hg => (Rd.of_nil (ak rfl)).step) rfl <| g0 (nU rfl (fun e => (aN rfl (n7 e)))) rfl <| g0 (aj rfl) rfl <| gn hK2 <| gT ?_; clear h ac; intro ac wo h
 exact ret h rfl (.tmp rfl .nil) rfl (h.retP (by unfold bu; rfl) trivial)
attribute [irreducible] bu
end Go.Sx
namespace Go.Sx
open Go Go.RowKit Go.Proofs
set_option maxRecDepth 100000
set_option maxHeartbeats 40000000
attribute [local irreducible] aE bM ap aT aJ dF
def cr (data : List Ev) (a : Nat) (b : Nat) (limit : Int) : List Ev :=
 (bH data a b)
theorem iO (data : List Ev) (datav : Value) (a : Nat) (b : Nat) (limit : Int) (hab : a ≤ b) (hb : b ≤ data.length) (hb2 : b ≤ 1000) (h12 : b ≤ a + 12) (zdata : All (SzE 30) data) (w0 w : World) (B : Asn) (hbel : Below w0.heap.size w0 w) (hsep : ∃ Z_, Sep w0.heap.size w [.row (α := Ev) 321 datav data, B] Z_)  : Calls Tryz.prog 284 #[datav, (.int .i64 ((a : Nat) : Int)), (.int .i64 ((b : Nat) : Int)), (.int .i64 limit), (.func (.func 246) #[] #[])] w (RetY w0 (fun v => v = .tuple #[] ∧ (All (SzE 30) (cr data a b limit) ∧ (cr data a b limit).length = data.length)) (fun v => [.row (α := Ev) 321 datav (cr data a b limit), B])) := by
 refine ld (N := 148) (args := [datav, (.int .i64 ((a : Nat) : Int)), (.int .i64 ((b : Nat) : Int)), (.int .i64 limit), (.func (.func 246) #[] #[])]) Tryz.func284 rfl rfl hbel hsep ?_; intro ac h
 have hlendata := h.len 0 rfl
 refine ej fun K1 hK1 => ?_
 refine rd0 h (aj rfl) rfl <| gn hK1 <| gr fun K2 hK2 => g0 (aj rfl) rfl <| gn hK2 <| gB ?_; clear h ac; intro ac wo h
 refine pu 1 ?_
 refine gz h <| gB <| gr fun K3 hK3 => g0 (ak rfl) rfl <| g0 (ak rfl) rfl <| g0 (eQ rfl rfl (r := (((b - a) : Nat) : Int)) (by rw [wI]; first | omega | grind)) rfl <| g0 (aj rfl) rfl <| gn hK3 <| gq fun K4 hK4 => gr fun K5 hK5 => g0 (ak rfl) rfl <| g0 (pK rfl rfl) rfl <| gn hK5 ?_; clear h ac wo; intro ac wo h
 refine ue h rfl ?_ (decide_eq_true (by omega))
 refine gz h <| gr fun K6 hK6 => g0 (ak rfl) rfl <| g0 (ak rfl) rfl <| g0 (ak rfl) rfl <| g0 (ak rfl) rfl ?_; clear h ac wo; intro ac wo h
 refine on1 h 0 rfl (nI (vs := [datav, (.int .i64 ((a : Nat) : Int)), (.int .i64 ((b : Nat) : Int)), (.func (.func 246) #[] #[])]) (A := fun v => [.row (α := Ev) 321 datav (bH data a b)]) (bF Tryz.call297 rfl) (fun w_ B_ hB_ hS_ => gM data datav a b (by first | omega | grind) (by first | omega | grind) (by first | omega | grind) zdata w0 w_ B_ hB_ hS_ )) rfl ?_; clear h ac wo; intro vc ac wo s2 h
 obtain rfl : vc = _ := s2.1
 have p3 := s2.2.2
 refine bV ?_
 refine hK6 _ _ ?_
 replace h := h.sub (F' := []) trivial
 refine gu ?_
 have hd : cr data a b limit = (bH data a b) := rfl
 exact ret (vs := []) h rfl .nil rfl ((h.pick [0, 1] (by decide)).retY ⟨rfl, (by rw [hd]; exact ⟨s2.2.1, (by first | omega | grind)⟩)⟩ (by rw [hd]; rfl))
attribute [irreducible] cr
end Go.Sx
namespace Go.Sx
open Go Go.RowKit Go.Proofs
set_option maxRecDepth 100000
set_option maxHeartbeats 40000000
attribute [local irreducible] aE bM ap aT aJ dF
def fD (x : Nat) : Int :=
 ((Lib.bitLen x : Nat) : Int)
theorem mw (x : Nat) (hx : x < 18446744073709551616) (w0 : World)  : Calls Tryz.prog 285 #[(.int .u64 ((x : Nat) : Int))] w0 (RetP w0 (.int .i64 (fD x)) (True)) := by
 refine enter (N := 8) (args := [(.int .u64 ((x : Nat) : Int))]) Tryz.func285 rfl rfl ?_; intro ac h
 refine ej fun K1 hK1 => ?_
 refine rd0 h (aj rfl) rfl <| gn hK1 <| gq fun K2 hK2 => ?_; clear h ac; intro ac wo h
 refine nP h rfl ?_
 refine gz h <| gS <| gx hK2 <| gr fun K3 hK3 => g0 (ak rfl) rfl <| gc (bF Tryz.call255 rfl) (kk (rC x (by assumption))) rfl <| g0 (aj rfl) rfl <| gn hK3 <| gT ?_; clear h ac wo; intro ac wo h
 exact ret h rfl (.tmp rfl .nil) rfl (h.retP (by unfold fD; rfl) trivial)
attribute [irreducible] fD
def cu (x : List Ev) : List Ev :=
 (cr x 0 x.length (fD x.length))
theorem iP (x : List Ev) (xv : Value) (hl : x.length ≤ 12) (zx : All (SzE 30) x) (w0 w : World) (B : Asn) (hbel : Below w0.heap.size w0 w) (hsep : ∃ Z_, Sep w0.heap.size w [.row (α := Ev) 321 xv x, B] Z_)  : Calls Tryz.prog 245 #[xv, (.func (.func 246) #[] #[])] w (RetY w0 (fun v => v = .tuple #[] ∧ (All (SzE 30) (cu x) ∧ (cu x).length = x.length)) (fun v => [.row (α := Ev) 321 xv (cu x), B])) := by
 refine ld (N := 14) (args := [xv, (.func (.func 246) #[] #[])]) Tryz.func245 rfl rfl hbel hsep ?_; intro ac h
 have hlenx := h.len 0 rfl
 refine ej fun K1 hK1 => ?_
 refine rd0 h (ak rfl) rfl ?_; clear h ac; intro ac wo h
 refine rd0 h (et uu317 rfl (h.row_sl 0 rfl)) rfl <| g0 (aj rfl) rfl <| gn hK1 <| gR <| g0 (ak rfl) rfl <| g0 (ak rfl) rfl <| g0 (ak rfl) rfl <| g0 (bt Tryz.runUnderlying3 Tryz.runUnderlying276 rfl (r := ((x.length : Nat) : Int)) (by rw [IntKind.wrap_u64]; first | omega | grind)) rfl <| gc (bF Tryz.call285 rfl) (kk (mw x.length (by first | omega | grind))) rfl <| g0 (ak rfl) rfl ?_; clear h ac wo; intro ac wo h
 refine on1 h 0 rfl (nI (vs := [xv, (.int .i64 0), (.int .i64 ((x.length : Nat) : Int)), (.int .i64 (fD x.length)), (.func (.func 246) #[] #[])]) (A := fun v => [.row (α := Ev) 321 xv (cr x 0 x.length (fD x.length))]) (bF Tryz.call284 rfl) (fun w_ B_ hB_ hS_ => iO x xv 0 x.length (fD x.length) (by first | omega | grind) (by first | omega | grind) (by first | omega | grind) (by first | omega | grind) zx w0 w_ B_ hB_ hS_ )) rfl ?_; clear h ac wo; intro vc ac wo s2 h
 obtain rfl : vc = _ := s2.1
 have p3 := s2.2.2
 refine bV ?_
 have hd : cu x = (cr x 0 x.length (fD x.length)) := rfl
 exact retN (vs := []) h rfl .nil rfl ((h.pick [0, 1] (by decide)).retY ⟨rfl, (by rw [hd]; exact ⟨s2.2.1, (by first | omega | grind)⟩)⟩ (by rw [hd]; rfl))
attribute [irreducible] cu
end Go.Sx
namespace Go.Sx
def kB (b : Bd) : Nat := 2 * tk b.at_ + (bif b.behind then 1 else 0)
theorem bb (b : Bool) : (bif b then 1 else 0 : Nat) ≤ 1 := by cases b <;> decide
theorem cmpB {a b : Bd} (ha : Tm a.at_) (hb : Tm b.at_) : aR a b = sgn (kB a) (kB b) := by
 unfold aR kB
 rw [ha.cmp hb]
 have h1 := bb a.behind
 have h2 := bb b.behind
 rcases Nat.lt_trichotomy (tk a.at_) (tk b.at_) with e | e | e
 ·rw [fN e, fN (by omega)]; rfl
 ·rw [e, er]
  cases a.behind <;> cases b.behind
  ·rw [er]; rfl
  ·rw [fN (by simp)]; rfl
  ·rw [fZ (by simp)]; rfl
  ·rw [er]; rfl
 ·rw [fZ e, fZ (by omega)]; rfl
theorem kB_inj {a b : Bd} (ha : Tm a.at_) (hb : Tm b.at_) (h : kB a = kB b) : a = b := by
 unfold kB at h
 have h1 := bb a.behind
 have h2 := bb b.behind
 have e : tk a.at_ = tk b.at_ := by omega
 have e2 := (ha.inj hb).1 e
 have e3 : a.behind = b.behind := by
  rw [e] at h
  cases ha : a.behind <;> cases hb : b.behind <;> rw [ha, hb] at h <;> simp at h <;> rfl
 obtain ⟨x, y⟩ := a
 obtain ⟨z, w⟩ := b
 simp only at e2 e3
 rw [e2, e3]
theorem pf (i : Iv) : ay i = ⟨i.lo, i.openLo⟩ := by unfold ay; rfl
theorem pl (i : Iv) : aI i = ⟨i.hi, !i.openHi⟩ := by unfold aI; rfl
theorem rg (i : Iv) : kB (ay i) = eK i := by rw [pf]; rfl
theorem tA (i : Iv) : (kB (aI i) : Int) = eW i + 1 := by
 unfold kB aI eW
 simp only
 cases i.openHi <;> simp <;> omega
theorem Wv.bd {i : Iv} (h : Wv i) : kB (ay i) < kB (aI i) := by
 have h1 := h.le
 have h2 := tA i
 rw [rg]; omega
theorem wv_of {i : Iv} (h : Tv i) (hlt : kB (ay i) < kB (aI i)) : Wv i := by
 rw [pf, pl] at hlt
 have hlt : 2 * tk i.lo + (bif i.openLo then 1 else 0) < 2 * tk i.hi + (bif !i.openHi then 1 else 0) := hlt
 have h1 := bb i.openLo
 have h2 := bb (!i.openHi)
 refine ⟨h, by omega, fun e => ?_⟩
 rw [e] at hlt
 revert hlt
 cases i.openLo <;> cases i.openHi <;> simp
theorem pn (a b : Bd) : ay (cc a b) = a := by
 unfold ay cc; rfl
theorem qO (a b : Bd) : aI (cc a b) = b := by
 unfold aI cc
 simp only [Bool.not_not]
theorem iv_ext {i j : Iv} (hi : Tv i) (hj : Tv j) (h1 : kB (ay i) = kB (ay j)) (h2 : kB (aI i) = kB (aI j)) : i = j := by
 have e1 := kB_inj (a := ay i) (b := ay j) (by rw [pf]; exact hi.1) (by rw [pf]; exact hj.1) h1
 have e2 := kB_inj (a := aI i) (b := aI j) (by rw [pl]; exact hi.2) (by rw [pl]; exact hj.2) h2
 rw [pf, pf, Bd.mk.injEq] at e1
 rw [pl, pl, Bd.mk.injEq] at e2
 obtain ⟨lo, hi', ol, oh⟩ := i
 obtain ⟨lo2, hi2, ol2, oh2⟩ := j
 simp only at e1 e2
 obtain ⟨rfl, rfl⟩ := e1
 obtain ⟨rfl, e3⟩ := e2
 rw [show oh = oh2 by cases oh <;> cases oh2 <;> first | rfl | cases e3]
end Go.Sx
namespace Go.Sx
def inI (i : Iv) (x : Nat) : Prop := kB (ay i) ≤ x ∧ x < kB (aI i)
def inP (p : List Iv) (x : Nat) : Prop := ∃ i ∈ p, inI i x
structure Cn (p : List Iv) : Prop where
 wv : ∀ i ∈ p, Wv i
 sep : p.Pairwise fun i j => kB (aI i) < kB (ay j)
theorem j9 (x : Nat) : ¬ inP [] x := fun ⟨_, h, _⟩ => by cases h
theorem fG {i : Iv} {p : List Iv} {x : Nat} : inP (i :: p) x ↔ inI i x ∨ inP p x := by
 constructor
 ·rintro ⟨j, hj, h⟩
  rcases List.mem_cons.1 hj with rfl | hj
  ·exact .inl h
  ·exact .inr ⟨j, hj, h⟩
 ·rintro (h | ⟨j, hj, h⟩)
  ·exact ⟨i, List.mem_cons_self .., h⟩
  ·exact ⟨j, List.mem_cons_of_mem _ hj, h⟩
theorem inP_app {p q : List Iv} {x : Nat} : inP (p ++ q) x ↔ inP p x ∨ inP q x := by
 constructor
 ·rintro ⟨j, hj, h⟩
  rcases List.mem_append.1 hj with hj | hj
  ·exact .inl ⟨j, hj, h⟩
  ·exact .inr ⟨j, hj, h⟩
 ·rintro (⟨j, hj, h⟩ | ⟨j, hj, h⟩)
  ·exact ⟨j, List.mem_append_left _ hj, h⟩
  ·exact ⟨j, List.mem_append_right _ hj, h⟩
theorem Cn.nil : Cn [] := ⟨fun _ h => (by cases h), List.Pairwise.nil⟩
theorem Cn.tail {i : Iv} {p : List Iv} (h : Cn (i :: p)) : Cn p ∧ (∀ j ∈ p, kB (aI i) < kB (ay j)) ∧ Wv i := by
 have h2 := List.pairwise_cons.1 h.sep
 exact ⟨⟨fun j hj => h.wv j (List.mem_cons_of_mem _ hj), h2.2⟩, h2.1, h.wv i (List.mem_cons_self ..)⟩
theorem Cn.behind {i : Iv} {p : List Iv} (h : Cn (i :: p)) {x : Nat} (hx : inP p x) : kB (aI i) < x := by
 obtain ⟨j, hj, h1, _⟩ := hx
 have := h.tail.2.1 j hj
 omega
theorem Cn.ext : ∀ {p q : List Iv}, Cn p → Cn q → (∀ x, inP p x ↔ inP q x) → p = q
 | [], [], _, _, _ => rfl
 | [], j :: q, _, hq, h => absurd ((h _).2 (fG.2 (.inl ⟨Nat.le_refl _, (hq.tail.2.2).bd⟩))) (j9 _)
 | i :: p, [], hp, _, h => absurd ((h _).1 (fG.2 (.inl ⟨Nat.le_refl _, (hp.tail.2.2).bd⟩))) (j9 _)
 | i :: p, j :: q, hp, hq, h => by
  have wi := hp.tail.2.2
  have wj := hq.tail.2.2
  have bi := wi.bd
  have bj := wj.bd
  have f1 : kB (ay j) ≤ kB (ay i) := by
   rcases fG.1 ((h _).1 (fG.2 (.inl ⟨Nat.le_refl _, bi⟩))) with h1 | h1
   ·exact h1.1
   ·have := hq.behind h1; omega
  have f2 : kB (ay i) ≤ kB (ay j) := by
   rcases fG.1 ((h _).2 (fG.2 (.inl ⟨Nat.le_refl _, bj⟩))) with h1 | h1
   ·exact h1.1
   ·have := hp.behind h1; omega
  have l1 : ¬ kB (aI i) < kB (aI j) := fun hl => by
   rcases fG.1 ((h (kB (aI i))).2 (fG.2 (.inl ⟨by omega, hl⟩))) with h1 | h1
   ·have := h1.2; omega
   ·have := hp.behind h1; omega
  have l2 : ¬ kB (aI j) < kB (aI i) := fun hl => by
   rcases fG.1 ((h (kB (aI j))).1 (fG.2 (.inl ⟨by omega, hl⟩))) with h1 | h1
   ·have := h1.2; omega
   ·have := hq.behind h1; omega
  have e : i = j := iv_ext wi.1 wj.1 (by omega) (by omega)
  subst e
  rw [Cn.ext hp.tail.1 hq.tail.1 fun x => ⟨fun hx => ?_, fun hx => ?_⟩]
  ·rcases fG.1 ((h x).1 (fG.2 (.inr hx))) with h1 | h1
   ·have := hp.behind hx; have := h1.2; omega
   ·exact h1
  ·rcases fG.1 ((h x).2 (fG.2 (.inr hx))) with h1 | h1
   ·have := hq.behind hx; have := h1.2; omega
   ·exact h1
def sm (c : Ev → Int) : List Ev → Nat → Int
 | [], _ => 0
 | e :: r, x => (if kB e.at_ ≤ x then c e else 0) + sm c r x
def rs (c : Ev → Int) : List Ev → Int
 | [] => 0
 | e :: r => c e + rs c r
variable {c : Ev → Int}
theorem sG (a b : List Ev) (x : Nat) : sm c (a ++ b) x = sm c a x + sm c b x := by
 induction a with
 | nil => show sm c b x = 0 + sm c b x; omega
 | cons e a ih => show (if kB e.at_ ≤ x then c e else 0) + sm c (a ++ b) x = (if kB e.at_ ≤ x then c e else 0) + sm c a x + sm c b x; rw [ih]; omega
theorem qW (a b : List Ev) : rs c (a ++ b) = rs c a + rs c b := by
 induction a with
 | nil => show rs c b = 0 + rs c b; omega
 | cons e a ih => show c e + rs c (a ++ b) = c e + rs c a + rs c b; rw [ih]; omega
theorem sF {a b : List Ev} (h : a.Perm b) (x : Nat) : sm c a x = sm c b x := by
 induction h with
 | nil => rfl
 | cons e _ ih => show _ + _ = _ + _; rw [ih]
 | swap e e' l => show (if kB e'.at_ ≤ x then c e' else 0) + ((if kB e.at_ ≤ x then c e else 0) + sm c l x) = (if kB e.at_ ≤ x then c e else 0) + ((if kB e'.at_ ≤ x then c e' else 0) + sm c l x); omega
 | trans _ _ h1 h2 => rw [h1, h2]
theorem sO {a b : List Ev} (h : a.Perm b) : rs c a = rs c b := by
 induction h with
 | nil => rfl
 | cons e _ ih => show _ + _ = _ + _; rw [ih]
 | swap e e' l => show c e' + (c e + rs c l) = c e + (c e' + rs c l); omega
 | trans _ _ h1 h2 => rw [h1, h2]
theorem sH {a : List Ev} {x : Nat} (h : ∀ e ∈ a, kB e.at_ ≤ x) : sm c a x = rs c a := by
 induction a with
 | nil => rfl
 | cons e a ih =>
  show (if kB e.at_ ≤ x then c e else 0) + sm c a x = c e + rs c a
  rw [if_pos (h e (List.mem_cons_self ..)), ih fun e' he => h e' (List.mem_cons_of_mem _ he)]
theorem qw {a : List Ev} {x : Nat} (h : ∀ e ∈ a, x < kB e.at_) : sm c a x = 0 := by
 induction a with
 | nil => rfl
 | cons e a ih =>
  show (if kB e.at_ ≤ x then c e else 0) + sm c a x = 0
  rw [if_neg (by have := h e (List.mem_cons_self ..); omega), ih fun e' he => h e' (List.mem_cons_of_mem _ he)]
  rfl
def far : List Ev → Nat
 | [] => 0
 | e :: r => kB e.at_ + far r
theorem tG : ∀ {a : List Ev}, ∀ e ∈ a, kB e.at_ ≤ far a
 | [], _, h => by cases h
 | e' :: a, e, h => by
  rcases List.mem_cons.1 h with rfl | h
  ·exact Nat.le_add_right _ _
  ·exact Nat.le_trans (tG e h) (Nat.le_add_left _ _)
def nxe (e : Ev) : List Ev → Bool
 | [] => false
 | e2 :: _ => aR e.at_ e2.at_ == 0
def swS (keep : Bool → Bool → Bool) : List Ev → List Iv → Bool → Bd → Int → Int → List Iv
 | [], out, _, _, _, _ => out
 | e :: r, out, in_, fr, n0, n1 =>
  bif (nxe e r) then swS keep r out in_ fr (n0 + e.b0) (n1 + e.b1)
  else bif (keep (decide (n0 + e.b0 > 0)) (decide (n1 + e.b1 > 0))) && !in_ then swS keep r out (keep (decide (n0 + e.b0 > 0)) (decide (n1 + e.b1 > 0))) e.at_ (n0 + e.b0) (n1 + e.b1)
  else bif (!(keep (decide (n0 + e.b0 > 0)) (decide (n1 + e.b1 > 0)))) && in_ then swS keep r (out ++ [cc fr e.at_]) (keep (decide (n0 + e.b0 > 0)) (decide (n1 + e.b1 > 0))) fr (n0 + e.b0) (n1 + e.b1)
  else swS keep r out (keep (decide (n0 + e.b0 > 0)) (decide (n1 + e.b1 > 0))) fr (n0 + e.b0) (n1 + e.b1)
theorem eqz {a b : Bd} (ha : Tm a.at_) (hb : Tm b.at_) : (aR a b == 0) = decide (kB a = kB b) := by
 rw [cmpB ha hb]
 by_cases e : kB a = kB b
 ·rw [e, er, decide_eq_true rfl]; rfl
 ·rw [decide_eq_false e]
  exact beq_eq_false_iff_ne.2 fun h => e (sgn_zero.1 h)
theorem not_in {out : List Iv} {y x : Nat} (h : ∀ i ∈ out, kB (aI i) < y) (hx : y ≤ x) : ¬ inP out x := fun ⟨i, hi, _, h2⟩ => by have := h i hi; omega
def b0c : Ev → Int := fun e => e.b0
def b1c : Ev → Int := fun e => e.b1
theorem sy {keep : Bool → Bool → Bool} {S : List Ev} (hT : ∀ e ∈ S, Tm e.at_.at_) (hs : S.Pairwise fun a b => kB a.at_ ≤ kB b.at_) (hend : keep (decide (rs b0c S > 0)) (decide (rs b1c S > 0)) = false) :
 ∀ (s p : List Ev) (out : List Iv) (in_ : Bool) (fr : Bd) (n0 n1 : Int), S = p ++ s → n0 = rs b0c p → n1 = rs b1c p →
  (∀ x, (∀ e ∈ s, x < kB e.at_) → ((inP out x ∨ (in_ = true ∧ kB fr ≤ x)) ↔ keep (decide (sm b0c S x > 0)) (decide (sm b1c S x > 0)) = true)) →
  Cn out → (∀ i ∈ out, ∀ e ∈ s, kB (aI i) < kB e.at_) →
  (in_ = true → Tm fr.at_ ∧ (∀ e ∈ s, kB fr < kB e.at_) ∧ ∀ i ∈ out, kB (aI i) < kB fr) →
  Cn (swS keep s out in_ fr n0 n1) ∧ ∀ x, inP (swS keep s out in_ fr n0 n1) x ↔ keep (decide (sm b0c S x > 0)) (decide (sm b1c S x > 0)) = true
 | [], p, out, in_, fr, n0, n1, hS, _, _, hR, hC, _, hI => by
  refine ⟨hC, fun x => ?_⟩
  show inP out x ↔ _
  cases in_ with
  | false =>
   rw [← hR x (fun _ h => by cases h)]
   exact ⟨.inl, fun h => h.resolve_right fun h => by cases h.1⟩
  | true =>
   exfalso
   have h1 := (hR (kB fr + far S) (fun _ h => by cases h)).1 (.inr ⟨rfl, Nat.le_add_right _ _⟩)
   rw [sH (fun e he => Nat.le_trans (tG e he) (Nat.le_add_left _ _)), sH (fun e he => Nat.le_trans (tG e he) (Nat.le_add_left _ _)), hend] at h1
   cases h1
 | e :: r, p, out, in_, fr, n0, n1, hS, hn0, hn1, hR, hC, hL, hI => by
  have hS2 : S = (p ++ [e]) ++ r := by rw [hS]; simp
  have hTe := hT e (by rw [hS]; simp)
  have hm0 : n0 + e.b0 = rs b0c (p ++ [e]) := by rw [qW, hn0]; show _ = rs b0c p + (e.b0 + 0); omega
  have hm1 : n1 + e.b1 = rs b1c (p ++ [e]) := by rw [qW, hn1]; show _ = rs b1c p + (e.b1 + 0); omega
  have hs2 := hs
  rw [hS2, List.pairwise_append] at hs2
  have hpe : ∀ e' ∈ p ++ [e], kB e'.at_ ≤ kB e.at_ := fun e' he' => by
   have h1 := hs
   rw [hS, List.pairwise_append] at h1
   rcases List.mem_append.1 he' with h2 | h2
   ·exact h1.2.2 e' h2 e (List.mem_cons_self ..)
   ·rw [List.mem_singleton.1 h2]; exact Nat.le_refl _
  have her : ∀ e' ∈ r, kB e.at_ ≤ kB e'.at_ := fun e' he' => hs2.2.2 e (by simp) e' he'
  cases ht : nxe e r with
  | true =>
   obtain ⟨e2, r2, rfl⟩ : ∃ e2 r2, r = e2 :: r2 := by
    cases r with
    | nil => cases ht
    | cons e2 r2 => exact ⟨e2, r2, rfl⟩
   have hk : kB e.at_ = kB e2.at_ := by
    have ht : (aR e.at_ e2.at_ == 0) = true := ht
    rw [eqz hTe (hT e2 (by rw [hS]; simp)), decide_eq_true_eq] at ht
    exact ht
   rw [show swS keep (e :: e2 :: r2) out in_ fr n0 n1 = swS keep (e2 :: r2) out in_ fr (n0 + e.b0) (n1 + e.b1) by
    show (bif (nxe e (e2 :: r2)) then _ else _) = _
    rw [ht]; rfl]
   refine sy hT hs hend (e2 :: r2) (p ++ [e]) out in_ fr _ _ hS2 hm0 hm1 (fun x hx => hR x fun e' he' => ?_) hC (fun i hi e' he' => hL i hi e' (List.mem_cons_of_mem _ he')) (fun hin => ⟨(hI hin).1, fun e' he' => (hI hin).2.1 e' (List.mem_cons_of_mem _ he'), (hI hin).2.2⟩)
   rcases List.mem_cons.1 he' with rfl | he'
   ·rw [hk]; exact hx e2 (List.mem_cons_self ..)
   ·exact hx e' he'
  | false =>
   have hgt : ∀ e' ∈ r, kB e.at_ < kB e'.at_ := fun e' he' => by
    cases r with
    | nil => cases he'
    | cons e2 r2 =>
     have ht : (aR e.at_ e2.at_ == 0) = false := ht
     rw [eqz hTe (hT e2 (by rw [hS]; simp)), decide_eq_false_iff_not] at ht
     have h1 := her e2 (List.mem_cons_self ..)
     have h2 := List.pairwise_cons.1 hs2.2.1
     rcases List.mem_cons.1 he' with rfl | he'
     ·omega
     ·have := h2.1 e' he'; omega
   have hK : ∀ x, kB e.at_ ≤ x → (∀ e' ∈ r, x < kB e'.at_) → keep (decide (sm b0c S x > 0)) (decide (sm b1c S x > 0)) = keep (decide (n0 + e.b0 > 0)) (decide (n1 + e.b1 > 0)) := fun x h1 h2 => by
    have q : ∀ c : Ev → Int, sm c S x = rs c (p ++ [e]) := fun c => by
     rw [hS2, sG, sH (fun e' he' => Nat.le_trans (hpe e' he') h1), qw h2]; omega
    rw [q, q, hm0, hm1]
   have hlow : ∀ x, x < kB e.at_ → ∀ e' ∈ e :: r, x < kB e'.at_ := fun x hx e' he' => by
    rcases List.mem_cons.1 he' with rfl | he'
    ·exact hx
    ·have := her e' he'; omega
   have hLe : ∀ i ∈ out, kB (aI i) < kB e.at_ := fun i hi => hL i hi e (List.mem_cons_self ..)
   have hLr : ∀ i ∈ out, ∀ e' ∈ r, kB (aI i) < kB e'.at_ := fun i hi e' he' => hL i hi e' (List.mem_cons_of_mem _ he')
   have ih := fun out in_ fr => sy hT hs hend r (p ++ [e]) out in_ fr _ _ hS2 hm0 hm1
   rw [show swS keep (e :: r) out in_ fr n0 n1 = bif (keep (decide (n0 + e.b0 > 0)) (decide (n1 + e.b1 > 0))) && !in_ then swS keep r out (keep (decide (n0 + e.b0 > 0)) (decide (n1 + e.b1 > 0))) e.at_ (n0 + e.b0) (n1 + e.b1)
    else bif (!(keep (decide (n0 + e.b0 > 0)) (decide (n1 + e.b1 > 0)))) && in_ then swS keep r (out ++ [cc fr e.at_]) (keep (decide (n0 + e.b0 > 0)) (decide (n1 + e.b1 > 0))) fr (n0 + e.b0) (n1 + e.b1)
    else swS keep r out (keep (decide (n0 + e.b0 > 0)) (decide (n1 + e.b1 > 0))) fr (n0 + e.b0) (n1 + e.b1) by
    show (bif (nxe e r) then _ else _) = _
    rw [ht]; rfl]
   revert hK
   generalize keep (decide (n0 + e.b0 > 0)) (decide (n1 + e.b1 > 0)) = now
   intro hK
   have hall : ∀ x, x < kB e.at_ ∨ kB e.at_ ≤ x := fun x => Nat.lt_or_ge x _
   cases now with
   | true =>
    cases in_ with
    | false =>
     refine ih out true e.at_ (fun x hx => ?_) hC hLr (fun _ => ⟨hTe, hgt, hLe⟩)
     rcases hall x with h1 | h1
     ·rw [← hR x (hlow x h1)]
      exact ⟨fun h => .inl (h.resolve_right fun h => by have := h.2; omega), fun h => .inl (h.resolve_right fun h => by cases h.1)⟩
     ·rw [hK x h1 hx]
      exact ⟨fun _ => rfl, fun _ => .inr ⟨rfl, h1⟩⟩
    | true =>
     obtain ⟨i1, i2, i3⟩ := hI rfl
     refine ih out true fr (fun x hx => ?_) hC hLr (fun _ => ⟨i1, fun e' he' => i2 e' (List.mem_cons_of_mem _ he'), i3⟩)
     rcases hall x with h1 | h1
     ·exact hR x (hlow x h1)
     ·rw [hK x h1 hx]
      have := i2 e (List.mem_cons_self ..)
      exact ⟨fun _ => rfl, fun _ => .inr ⟨rfl, by omega⟩⟩
   | false =>
    cases in_ with
    | false =>
     refine ih out false fr (fun x hx => ?_) hC hLr (fun h => by cases h)
     rcases hall x with h1 | h1
     ·exact hR x (hlow x h1)
     ·rw [hK x h1 hx]
      exact ⟨fun h => h.elim (fun h => absurd h (not_in hLe h1)) fun h => (by cases h.1), fun h => (by cases h)⟩
    | true =>
     obtain ⟨i1, i2, i3⟩ := hI rfl
     have hfe := i2 e (List.mem_cons_self ..)
     have hin : ∀ x, inI (cc fr e.at_) x ↔ (kB fr ≤ x ∧ x < kB e.at_) := fun x => by unfold inI; rw [pn, qO]
     have hw : Wv (cc fr e.at_) := by
      refine wv_of ⟨?_, ?_⟩ (by rw [pn, qO]; exact hfe)
      ·unfold cc; exact i1
      ·unfold cc; exact hTe
     refine ih (out ++ [cc fr e.at_]) false fr (fun x hx => ?_) ⟨fun i hi => ?_, ?_⟩ (fun i hi e' he' => ?_) (fun h => by cases h)
     ·have hx2 : inP (out ++ [cc fr e.at_]) x ↔ inP out x ∨ (kB fr ≤ x ∧ x < kB e.at_) := by
       rw [inP_app, fG, hin]
       exact ⟨fun h => h.imp id fun h => h.resolve_right (j9 x), fun h => h.imp id .inl⟩
      rw [hx2]
      rcases hall x with h1 | h1
      ·rw [← hR x (hlow x h1)]
       constructor
       ·rintro ((h | h) | h)
        ·exact .inl h
        ·exact .inr ⟨rfl, h.1⟩
        ·cases h.1
       ·rintro (h | h)
        ·exact .inl (.inl h)
        ·exact .inl (.inr ⟨h.2, h1⟩)
      ·rw [hK x h1 hx]
       constructor
       ·rintro ((h | h) | h)
        ·exact absurd h (not_in hLe h1)
        ·omega
        ·cases h.1
       ·intro h; cases h
     ·rcases List.mem_append.1 hi with hi | hi
      ·exact hC.wv i hi
      ·rw [List.mem_singleton.1 hi]; exact hw
     ·rw [List.pairwise_append]
      refine ⟨hC.sep, List.pairwise_singleton _ _, fun i hi j hj => ?_⟩
      rw [List.mem_singleton.1 hj, pn]
      exact i3 i hi
     ·rcases List.mem_append.1 hi with hi | hi
      ·exact hLr i hi e' he'
      ·rw [List.mem_singleton.1 hi, qO]
       exact hgt e' he'
def evA (a : List Iv) : List Ev := a.flatMap fun i => [⟨ay i, 1, 0⟩, ⟨aI i, -1, 0⟩]
def evB (b : List Iv) : List Ev := b.flatMap fun i => [⟨ay i, 0, 1⟩, ⟨aI i, 0, -1⟩]
theorem rp {i : Iv} (h : Wv i) (x : Nat) : (if kB (ay i) ≤ x then (1 : Int) else 0) + ((if kB (aI i) ≤ x then (-1 : Int) else 0)) = if kB (ay i) ≤ x ∧ x < kB (aI i) then 1 else 0 := by
 have := h.bd
 by_cases h1 : kB (ay i) ≤ x
 ·by_cases h2 : kB (aI i) ≤ x
  ·rw [if_pos h1, if_pos h2, if_neg (by omega)]; rfl
  ·rw [if_pos h1, if_neg h2, if_pos ⟨h1, by omega⟩]; rfl
 ·rw [if_neg h1, if_neg (by omega), if_neg (by omega)]; rfl
theorem evA_sm : ∀ {a : List Iv}, (∀ i ∈ a, Wv i) → ∀ x, 0 ≤ sm b0c (evA a) x ∧ (0 < sm b0c (evA a) x ↔ inP a x)
 | [], _, x => ⟨Int.le_refl _, ⟨fun h => absurd h (Int.lt_irrefl _), fun h => absurd h (j9 x)⟩⟩
 | i :: a, h, x => by
  obtain ⟨h1, h2⟩ := evA_sm (a := a) (fun j hj => h j (List.mem_cons_of_mem _ hj)) x
  have e : sm b0c (evA (i :: a)) x = ((if kB (ay i) ≤ x then (1 : Int) else 0) + ((if kB (aI i) ≤ x then (-1 : Int) else 0))) + sm b0c (evA a) x := by
   show (if kB (ay i) ≤ x then (1 : Int) else 0) + ((if kB (aI i) ≤ x then (-1 : Int) else 0) + sm b0c (evA a) x) = _
   omega
  rw [e, rp (h i (List.mem_cons_self ..)), fG, ← h2]
  unfold inI
  by_cases h3 : kB (ay i) ≤ x ∧ x < kB (aI i)
  ·rw [if_pos h3]; exact ⟨by omega, ⟨fun _ => .inl h3, fun _ => by omega⟩⟩
  ·rw [if_neg h3]; exact ⟨by omega, ⟨fun h4 => .inr (by omega), fun h4 => by have := h4.resolve_left h3; omega⟩⟩
theorem evB_sm : ∀ {a : List Iv}, (∀ i ∈ a, Wv i) → ∀ x, 0 ≤ sm b1c (evB a) x ∧ (0 < sm b1c (evB a) x ↔ inP a x)
 | [], _, x => ⟨Int.le_refl _, ⟨fun h => absurd h (Int.lt_irrefl _), fun h => absurd h (j9 x)⟩⟩
 | i :: a, h, x => by
  obtain ⟨h1, h2⟩ := evB_sm (a := a) (fun j hj => h j (List.mem_cons_of_mem _ hj)) x
  have e : sm b1c (evB (i :: a)) x = ((if kB (ay i) ≤ x then (1 : Int) else 0) + ((if kB (aI i) ≤ x then (-1 : Int) else 0))) + sm b1c (evB a) x := by
   show (if kB (ay i) ≤ x then (1 : Int) else 0) + ((if kB (aI i) ≤ x then (-1 : Int) else 0) + sm b1c (evB a) x) = _
   omega
  rw [e, rp (h i (List.mem_cons_self ..)), fG, ← h2]
  unfold inI
  by_cases h3 : kB (ay i) ≤ x ∧ x < kB (aI i)
  ·rw [if_pos h3]; exact ⟨by omega, ⟨fun _ => .inl h3, fun _ => by omega⟩⟩
  ·rw [if_neg h3]; exact ⟨by omega, ⟨fun h4 => .inr (by omega), fun h4 => by have := h4.resolve_left h3; omega⟩⟩
theorem evA_0 : ∀ (a : List Iv) (x : Nat), sm b1c (evA a) x = 0 ∧ rs b1c (evA a) = 0 ∧ rs b0c (evA a) = 0
 | [], _ => ⟨rfl, rfl, rfl⟩
 | i :: a, x => by
  obtain ⟨h1, h2, h3⟩ := evA_0 a x
  refine ⟨?_, ?_, ?_⟩
  ·show (if kB (ay i) ≤ x then (0 : Int) else 0) + ((if kB (aI i) ≤ x then (0 : Int) else 0) + sm b1c (evA a) x) = 0
   rw [h1]; simp
  ·show (0 : Int) + (0 + rs b1c (evA a)) = 0
   rw [h2]; rfl
  ·show (1 : Int) + (-1 + rs b0c (evA a)) = 0
   rw [h3]; rfl
theorem evB_0 : ∀ (a : List Iv) (x : Nat), sm b0c (evB a) x = 0 ∧ rs b0c (evB a) = 0 ∧ rs b1c (evB a) = 0
 | [], _ => ⟨rfl, rfl, rfl⟩
 | i :: a, x => by
  obtain ⟨h1, h2, h3⟩ := evB_0 a x
  refine ⟨?_, ?_, ?_⟩
  ·show (if kB (ay i) ≤ x then (0 : Int) else 0) + ((if kB (aI i) ≤ x then (0 : Int) else 0) + sm b0c (evB a) x) = 0
   rw [h1]; simp
  ·show (0 : Int) + (0 + rs b0c (evB a)) = 0
   rw [h2]; rfl
  ·show (1 : Int) + (-1 + rs b1c (evB a)) = 0
   rw [h3]; rfl
theorem ev_tm {a b : List Iv} (ha : ∀ i ∈ a, Wv i) (hb : ∀ i ∈ b, Wv i) : ∀ e ∈ evA a ++ evB b, Tm e.at_.at_ := fun e he => by
 rcases List.mem_append.1 he with he | he
 ·obtain ⟨i, hi, he⟩ := List.mem_flatMap.1 he
  have := (ha i hi).1
  rcases List.mem_cons.1 he with rfl | he
  ·show Tm (ay i).at_; rw [pf]; exact this.1
  ·rw [List.mem_singleton.1 he]; show Tm (aI i).at_; rw [pl]; exact this.2
 ·obtain ⟨i, hi, he⟩ := List.mem_flatMap.1 he
  have := (hb i hi).1
  rcases List.mem_cons.1 he with rfl | he
  ·show Tm (ay i).at_; rw [pf]; exact this.1
  ·rw [List.mem_singleton.1 he]; show Tm (aI i).at_; rw [pl]; exact this.2
open Classical in
theorem sx {keep : Bool → Bool → Bool} (hk : keep false false = false) {a b : List Iv} (ha : ∀ i ∈ a, Wv i) (hb : ∀ i ∈ b, Wv i) {S : List Ev} (hp : S.Perm (evA a ++ evB b)) (hs : S.Pairwise fun a b => kB a.at_ ≤ kB b.at_) (fr : Bd) :
 Cn (swS keep S [] false fr 0 0) ∧ ∀ x, inP (swS keep S [] false fr 0 0) x ↔ keep (decide (inP a x)) (decide (inP b x)) = true := by
 have hT : ∀ e ∈ S, Tm e.at_.at_ := fun e he => ev_tm ha hb e (hp.mem_iff.1 he)
 have h0 : ∀ x, sm b0c S x = sm b0c (evA a) x := fun x => by rw [sF hp, sG, (evB_0 b x).1]; omega
 have h1 : ∀ x, sm b1c S x = sm b1c (evB b) x := fun x => by rw [sF hp, sG, (evA_0 a x).1]; omega
 have hend : keep (decide (rs b0c S > 0)) (decide (rs b1c S > 0)) = false := by
  rw [sO hp, sO hp, qW, qW, (evA_0 a 0).2.2, (evB_0 b 0).2.1, (evA_0 a 0).2.1, (evB_0 b 0).2.2]
  exact hk
 have hx : ∀ x, keep (decide (sm b0c S x > 0)) (decide (sm b1c S x > 0)) = keep (decide (inP a x)) (decide (inP b x)) := fun x => by
  rw [h0, h1, decide_eq_decide.2 (evA_sm ha x).2, decide_eq_decide.2 (evB_sm hb x).2]
 obtain ⟨r1, r2⟩ := sy hT hs hend S [] [] false fr 0 0 rfl rfl rfl (fun x hx2 => by
  rw [qw hx2, qw hx2]
  constructor
  ·rintro (h | h)
   ·exact absurd h (j9 x)
   ·cases h.1
  ·intro h
   rw [show decide ((0 : Int) > 0) = false from rfl, hk] at h; cases h) Cn.nil (fun _ h => by cases h) (fun h => by cases h)
 exact ⟨r1, fun x => by rw [r2, hx]⟩
end Go.Sx
namespace Go.Proofs
open Go.Shelf
def Tryz.laysSort_ren : Go.Shelf.Ren := ⟨fun | 6 => 245 | 15 => 285 | 14 => 284 | 28 => 296 | 29 => 255 | 20 => 297 | 21 => 298 | 22 => 299 | 23 => 300 | 24 => 301 | 25 => 302 | 26 => 303 | 27 => 304 | 46 => 317 | 47 => 318 | 48 => 319 | 49 => 320 | 50 => 321 | 57 => 334 | n => n, fun | 22 => 317 | 24 => 321 | 25 => 323 | 3 => 3 | 39 => 276 | 0 => 0 | 53 => 341 | 55 => 254 | 4 => 4 | 46 => 375 | 45 => 374 | 50 => 72 | 5 => 5 | 9 => 9 | 66 => 393 | 70 => 397 | 76 => 415 | 77 => 416 | n => n, fun | n => n⟩
theorem Tryz.laysSort : Go.Proofs.SlLaysF0.n6 Tryz.prog Tryz.laysSort_ren := {
 mixed := by kernel_rfl
 f6 := ⟨Tryz.f245.name, by decide, Tryz.func245.trans (congrArg some (by kernel_rfl))⟩
 f14 := ⟨Tryz.f284.name, by decide, Tryz.func284.trans (congrArg some (by kernel_rfl))⟩
 f15 := Tryz.func285.trans (congrArg some (by kernel_rfl))
 f20 := ⟨Tryz.f297.name, by decide, Tryz.func297.trans (congrArg some (by kernel_rfl))⟩
 f21 := ⟨Tryz.f298.name, by decide, Tryz.func298.trans (congrArg some (by kernel_rfl))⟩
 f22 := ⟨Tryz.f299.name, by decide, Tryz.func299.trans (congrArg some (by kernel_rfl))⟩
 f23 := ⟨Tryz.f300.name, by decide, Tryz.func300.trans (congrArg some (by kernel_rfl))⟩
 f24 := ⟨Tryz.f301.name, by decide, Tryz.func301.trans (congrArg some (by kernel_rfl))⟩
 f25 := ⟨Tryz.f302.name, by decide, Tryz.func302.trans (congrArg some (by kernel_rfl))⟩
 f26 := ⟨Tryz.f303.name, by decide, Tryz.func303.trans (congrArg some (by kernel_rfl))⟩
 f27 := ⟨Tryz.f304.name, by decide, Tryz.func304.trans (congrArg some (by kernel_rfl))⟩
 f28 := Tryz.func296.trans (congrArg some (by kernel_rfl))
 f29 := Tryz.func255.trans (congrArg some (by kernel_rfl))
 f46 := ⟨Tryz.f317.name, by decide, Tryz.func317.trans (congrArg some (by kernel_rfl))⟩
 f47 := Tryz.func318.trans (congrArg some (by kernel_rfl))
 f48 := Tryz.func319.trans (congrArg some (by kernel_rfl))
 f49 := ⟨Tryz.f320.name, by decide, Tryz.func320.trans (congrArg some (by kernel_rfl))⟩
 f50 := ⟨Tryz.f321.name, by decide, Tryz.func321.trans (congrArg some (by kernel_rfl))⟩
 f57 := ⟨Tryz.f334.name, by decide, Tryz.func334.trans (congrArg some (by kernel_rfl))⟩
 t0 := Tryz.underlying0
 a0 := Tryz.isAgg0
 z0 := Tryz.sizeOf0
 v0 := Tryz.zeroValue0
 t3 := Tryz.underlying3
 a3 := aa3
 z3 := zz3
 v3 := Tryz.zeroValue3
 t4 := Tryz.underlying4
 a4 := aa4
 z4 := zz4
 v4 := Tryz.zeroValue4
 t5 := Tryz.underlying5
 a5 := Tryz.isAgg5
 z5 := Tryz.sizeOf5
 v5 := Tryz.zeroValue5
 t9 := Tryz.underlying9
 a9 := Tryz.isAgg9
 z9 := Tryz.sizeOf9
 v9 := Tryz.zeroValue9
 t22 := nn317
 a22 := Tryz.isAgg317
 z22 := Tryz.sizeOf317
 v22 := Tryz.zeroValue317
 t25 := Tryz.underlying323
 a25 := Tryz.isAgg323
 z25 := Tryz.sizeOf323
 v25 := Tryz.zeroValue323
 t39 := Tryz.underlying276
 a39 := Tryz.isAgg276
 z39 := Tryz.sizeOf276
 v39 := Tryz.zeroValue276
 t45 := Tryz.underlying374
 a45 := Tryz.isAgg374
 z45 := Tryz.sizeOf374
 v45 := Tryz.zeroValue374
 t46 := Tryz.underlying375
 a46 := Tryz.isAgg375
 z46 := Tryz.sizeOf375
 v46 := Tryz.zeroValue375
 t50 := Tryz.underlying72
 a50 := Tryz.isAgg72
 z50 := Tryz.sizeOf72
 v50 := Tryz.zeroValue72
 t53 := Tryz.underlying341
 a53 := Tryz.isAgg341
 z53 := Tryz.sizeOf341
 v53 := Tryz.zeroValue341
 t55 := Tryz.underlying254
 a55 := Tryz.isAgg254
 z55 := Tryz.sizeOf254
 v55 := Tryz.zeroValue254
 t66 := Tryz.underlying393
 a66 := Tryz.isAgg393
 z66 := Tryz.sizeOf393
 v66 := Tryz.zeroValue393
 t70 := Tryz.underlying397
 a70 := Tryz.isAgg397
 z70 := Tryz.sizeOf397
 v70 := Tryz.zeroValue397
 t76 := Tryz.underlying415
 a76 := Tryz.isAgg415
 z76 := Tryz.sizeOf415
 v76 := Tryz.zeroValue415
 t77 := Tryz.underlying416
 a77 := Tryz.isAgg416
 z77 := Tryz.sizeOf416
 v77 := Tryz.zeroValue416 }
end Go.Proofs
namespace Go.Sx
open Go Go.RowKit Go.Proofs Go.Sort Go.Lib
structure TE where
 e : Ev
 tm : Tm e.at_.at_
theorem rH : Tm (default : GR) := ⟨0, false, by decide, by unfold ab a8 bM ap; rfl⟩
instance : Inhabited TE := ⟨⟨default, rH⟩⟩
def cfT (x y : TE) : Int := cm x.1 y.1
theorem rv (x y : TE) : ltOf cfT x y = decide (kB x.1.at_ < kB y.1.at_) := by
 unfold ltOf cfT cm
 rw [cmpB x.2 y.2]
 exact decide_eq_decide.2 kv
theorem ud : SWO (ltOf cfT) where
 irrefl x := by rw [rv]; exact decide_eq_false (Nat.lt_irrefl _)
 trans x y z h1 h2 := by
  rw [rv, decide_eq_true_eq] at *
  omega
 ntrans x y z h1 h2 := by
  rw [rv, decide_eq_false_iff_not] at *
  omega
def pq (d : Array TE) : Array TE := pdq (ltOf cfT) d 0 d.size (Lib.bitLen d.size) true true
theorem sB (d : Array TE) : (pq d).size = d.size ∧ (pq d).toList.Perm d.toList ∧ (pq d).toList.Pairwise fun a b => kB a.1.at_ ≤ kB b.1.at_ := by
 have h := pdq_sorts (ltOf cfT) ud d 0 d.size (Lib.bitLen d.size) true true (Nat.zero_le _) (Nat.le_refl _) (Or.inl rfl)
 obtain ⟨⟨h1, _, h3⟩, h4⟩ := h
 have h1 : (pq d).size = d.size := h1
 refine ⟨h1, ?_, ?_⟩
 ·have h3 : ((pq d).extract 0 d.size).toList.Perm (d.extract 0 d.size).toList := h3
  rw [← h1] at h3
  rw [h1] at h3
  have e1 : (pq d).extract 0 d.size = pq d := by rw [← h1]; simp
  have e2 : d.extract 0 d.size = d := by simp
  rwa [e1, e2] at h3
 ·rw [List.pairwise_iff_getElem]
  intro i j hi hj hij
  have hi' : i < (pq d).size := by simpa using hi
  have hj' : j < (pq d).size := by simpa using hj
  have h5 := h4 i j (Nat.zero_le _) hij (by rw [← h1]; exact hj')
  have h5 : ltOf cfT (pq d)[j]! (pq d)[i]! = false := h5
  rw [getElem!_pos (pq d) i hi', getElem!_pos (pq d) j hj', rv, decide_eq_false_iff_not] at h5
  show kB ((pq d).toList[i]).1.at_ ≤ kB ((pq d).toList[j]).1.at_
  simp only [Array.getElem_toList]
  omega
theorem allTm {x : GR} (h : x ∈ allI) : Tm x := by
 unfold allI at h
 rcases List.mem_append.1 h with h | h
 ·unfold insX at h
  simp only [List.mem_cons, List.not_mem_nil, or_false] at h
  rcases h with h | h | h | h
  ·exact ⟨-1, false, .inl rfl, h⟩
  ·exact ⟨-1, true, .inl rfl, h⟩
  ·exact ⟨1000, false, .inr (.inl rfl), h⟩
  ·exact ⟨1000, true, .inr (.inl rfl), h⟩
 ·unfold pY at h
  obtain ⟨i, hi, h⟩ := List.mem_flatMap.1 h
  have hi := List.mem_range.1 hi
  rw [Nat.zero_add] at h
  rcases List.mem_cons.1 h with h | h
  ·exact ⟨i, false, .inr (.inr (by omega)), h⟩
  ·exact ⟨i, true, .inr (.inr (by omega)), List.mem_singleton.1 h⟩
def tmB (x : GR) : Bool := allI.any fun y => decide (x = y)
theorem ss {x : GR} : tmB x = true ↔ Tm x := by
 unfold tmB
 rw [List.any_eq_true]
 constructor
 ·rintro ⟨y, hy, e⟩
  rw [of_decide_eq_true e]; exact allTm hy
 ·intro h
  exact ⟨_, h.all, decide_eq_true rfl⟩
def tmL (l : List Ev) : Bool := l.all fun e => tmB e.at_.at_
theorem iB {l : List Ev} : tmL l = true ↔ ∀ e ∈ l, Tm e.at_.at_ := by
 unfold tmL
 rw [List.all_eq_true]
 exact ⟨fun h e he => ss.1 (h e he), fun h e he => ss.2 (h e he)⟩
def evT (l : List Ev) (h : tmL l = true) : Array TE := (l.attach.map fun e => (⟨e.1, iB.1 h e.1 e.2⟩ : TE)).toArray
theorem tJ (l : List Ev) (h : tmL l = true) : (evT l h).toList.map (fun x => x.1) = l := by
 show ((l.attach.map fun e => (⟨e.1, iB.1 h e.1 e.2⟩ : TE)).map fun x => x.1) = l
 rw [List.map_map]
 exact List.attach_map_subtype_val l
theorem evT_size (l : List Ev) (h : tmL l = true) : (evT l h).size = l.length := by unfold evT; simp
def an (l : List Ev) : List Ev :=
 if h : tmL l = true then (if l.length ≤ 12 then cu l else (pq (evT l h)).toList.map fun x => x.1) else l
theorem small_is (l : List Ev) : cu l = pU cm l 0 l.length := by
 unfold cu cr
 show bH l 0 l.length = _
 unfold bH
 rfl
theorem oc {x : Ev} (hx : Tm x.at_.at_) : ∀ {r : List Ev}, (∀ e ∈ r, Tm e.at_.at_) → (r.Pairwise fun a b => kB b.at_ ≤ kB a.at_) → (iA cm x r).Pairwise fun a b => kB b.at_ ≤ kB a.at_
 | [], _, _ => List.pairwise_singleton _ _
 | y :: q, h, hp => by
  have hy := h y (List.mem_cons_self ..)
  have hp2 := List.pairwise_cons.1 hp
  have hc : cm x y < 0 ↔ kB x.at_ < kB y.at_ := by
   unfold cm
   rw [cmpB hx hy, kv]
  unfold iA
  by_cases hl : cm x y < 0
  ·rw [if_pos hl, List.pairwise_cons]
   refine ⟨fun z hz => ?_, oc hx (fun e he => h e (List.mem_cons_of_mem _ he)) hp2.2⟩
   rcases List.mem_cons.1 ((iI (c := cm) x q).mem_iff.1 hz) with rfl | hz
   ·have := hc.1 hl; omega
   ·exact hp2.1 z hz
  ·rw [if_neg hl, List.pairwise_cons]
   have hxy : kB y.at_ ≤ kB x.at_ := Nat.le_of_not_lt fun h2 => hl (hc.2 h2)
   refine ⟨fun z hz => ?_, hp⟩
   rcases List.mem_cons.1 hz with rfl | hz
   ·exact hxy
   ·exact Nat.le_trans (hp2.1 z hz) hxy
theorem pV : ∀ {s r : List Ev}, (∀ e ∈ s, Tm e.at_.at_) → (∀ e ∈ r, Tm e.at_.at_) → (r.Pairwise fun a b => kB b.at_ ≤ kB a.at_) → (nM cm r s).Pairwise fun a b => kB b.at_ ≤ kB a.at_
 | [], _, _, _, hp => hp
 | x :: s, r, h1, h2, hp => by
  have hx := h1 x (List.mem_cons_self ..)
  show (nM cm (iA cm x r) s).Pairwise _
  exact pV (fun e he => h1 e (List.mem_cons_of_mem _ he)) (fun e he => by
   rcases List.mem_cons.1 ((iI (c := cm) x r).mem_iff.1 he) with rfl | he
   ·exact hx
   ·exact h2 e he) (oc hx h2 hp)
theorem sC {l : List Ev} (h : ∀ e ∈ l, Tm e.at_.at_) : (an l).Perm l ∧ (an l).Pairwise fun a b => kB a.at_ ≤ kB b.at_ := by
 unfold an
 rw [dif_pos (iB.2 h)]
 by_cases hl : l.length ≤ 12
 ·rw [if_pos hl, small_is]
  refine ⟨kV l, ?_⟩
  rw [oV, List.pairwise_reverse]
  exact pV h (fun _ h => by cases h) List.Pairwise.nil
 ·rw [if_neg hl]
  obtain ⟨_, h2, h3⟩ := sB (evT l (iB.2 h))
  refine ⟨?_, by rw [List.pairwise_map]; exact h3⟩
  have := h2.map (fun x : TE => x.1)
  rwa [tJ] at this
theorem jr (l : List Ev) : (an l).Perm l := by
 by_cases h : ∀ e ∈ l, Tm e.at_.at_
 ·exact (sC h).1
 ·unfold an; rw [dif_neg (fun h2 => h (iB.1 h2))]
theorem jJ (x : List Ev) (xv : Value) (hl : x.length ≤ 1000) (hT : ∀ e ∈ x, Tm e.at_.at_) (zx : All (SzE 30) x) (w0 w : World) (B : Asn) (hbel : Below w0.heap.size w0 w) (hsep : ∃ Z_, Sep w0.heap.size w [.row (α := Ev) 321 xv x, B] Z_)  : Calls Tryz.prog 245 #[xv, (.func (.func 246) #[] #[])] w (RetY w0 (fun v => v = .tuple #[] ∧ (All (SzE 30) (an x) ∧ (an x).length = x.length)) (fun v => [.row (α := Ev) 321 xv (an x), B])) := by
 have hprop : All (SzE 30) (an x) ∧ (an x).length = x.length := ⟨fun e he => zx e ((jr x).mem_iff.1 he), (jr x).length_eq⟩
 by_cases h12 : x.length ≤ 12
 ·have e : an x = cu x := by unfold an; rw [dif_pos (iB.2 hT), if_pos h12]
  rw [e]
  exact iP x xv h12 zx w0 w B hbel hsep
 ·have e : an x = (pq (evT x (iB.2 hT))).toList.map (fun x => x.1) := by unfold an; rw [dif_pos (iB.2 hT), if_neg h12]
  have hsz := evT_size x (iB.2 hT)
  have hsep2 : ∃ Z_, Sep w0.heap.size w [.row (α := Ev) 321 xv ((evT x (iB.2 hT)).toList.map (fun x => x.1)), B] Z_ := by rw [tJ]; exact hsep
  have hk := sort_own (P := Tryz.prog) (val := fun x : TE => x.1) (F := 245) (more := [(.func (.func 246) #[] #[])]) (D' := pq (evT x (iB.2 hT))) (by omega) (sB _).1 hprop hbel hsep2 fun blk cap hv hH hhi hlo => by
   have eg : ∀ args w, (callFunc 246 args).run Tryz.prog w = .ok (.enter 246 args) w := Tryz.call246
   have hc := lays_of (P := Tryz.prog) (val := fun x : TE => x.1) (g := 246) (cf := cfT) (blk := blk) (size := (evT x (iB.2 hT)).size) (w := w) (p := fun x y => (-1 ≤ (cm x.1 y.1) ∧ (cm x.1 y.1) ≤ 1)) (fun a b w => iG a.1 b.1 (dg (nH a.2) (by decide)) (dg (nH b.2) (by decide)) w)
   have := AnyQ.slices_SortFunc_eq (P := Tryz.prog) Tryz.laysSort 12 aa321 zz321 (fun x : TE => Cod.enc x.1) (fun x => Cod.len x.1) (fun x => Cod.one x.1) cfT ud 246 #[] blk 0 cap (evT x (iB.2 hT)) w eg hc hH hhi (by omega)
   rw [hv]
   exact this
  rw [← e] at hk
  exact hk
def EvB (e : Ev) : Prop := (-1 ≤ e.b0 ∧ e.b0 ≤ 1) ∧ (-1 ≤ e.b1 ∧ e.b1 ≤ 1)
theorem evb_nil : ∀ e ∈ ([] : List Ev), EvB e := fun _ h => by cases h
theorem tI {l : List Ev} (h : ∀ e ∈ l, EvB e) {x y : Bd} {a b c d : Int} (h1 : (-1 ≤ a ∧ a ≤ 1) ∧ (-1 ≤ b ∧ b ≤ 1)) (h2 : (-1 ≤ c ∧ c ≤ 1) ∧ (-1 ≤ d ∧ d ≤ 1)) : ∀ e ∈ l ++ [⟨x, a, b⟩, ⟨y, c, d⟩], EvB e := fun e he => by
 rcases List.mem_append.1 he with he | he
 ·exact h e he
 ·rcases List.mem_cons.1 he with rfl | he
  ·exact h1
  ·rw [List.mem_singleton.1 he]; exact h2
theorem evb_gt {l : List Ev} (h : ∀ e ∈ l, EvB e) (i : Nat) : EvB (gt (an l) i) := by
 have hp := jr l
 by_cases hi : i < (an l).length
 ·have : gt (an l) i ∈ an l := by
   unfold gt
   rw [List.getD_eq_getElem?_getD, List.getElem?_eq_getElem hi]
   exact List.getElem_mem _
  exact h _ (hp.mem_iff.1 this)
 ·have : gt (an l) i = default := by unfold gt; rw [List.getD_eq_getElem?_getD, List.getElem?_eq_none (by omega)]; rfl
  rw [this]; exact ⟨⟨by decide, by decide⟩, ⟨by decide, by decide⟩⟩
theorem mi {β : Type} [Inhabited β] {A : List β} {i : Nat} (h : i < A.length) : A.take (i + 1) = A.take i ++ [gt A i] := by
 rw [gp h, List.take_append_getElem]
theorem evA_next {l : List Ev} {a : List Iv} {x : Nat} (h : l = evA (a.take x)) (hx : x < a.length) : l ++ [⟨ay (gt a x), 1, 0⟩, ⟨aI (gt a x), -1, 0⟩] = evA (a.take (x + 1)) := by
 rw [h, mi hx]; simp [evA]
theorem evB_next {l : List Ev} {a b : List Iv} {x : Nat} (h : l = evA a ++ evB (b.take x)) (hx : x < b.length) : l ++ [⟨ay (gt b x), 0, 1⟩, ⟨aI (gt b x), 0, -1⟩] = evA a ++ evB (b.take (x + 1)) := by
 rw [h, mi hx]; simp [evB]
end Go.Sx
namespace Go.Sx
open Go Go.RowKit Go.Proofs
set_option maxRecDepth 100000
set_option maxHeartbeats 40000000
attribute [local irreducible] aE bM ap aT aJ dF
theorem pB : SlT Tryz.prog 103 86 20 216 [.bool false, .string ⟨#[]⟩, .bool false, .string ⟨#[]⟩, .bool false, .string ⟨#[]⟩, .bool false, .string ⟨#[]⟩, .bool false, .bool false, .string ⟨#[]⟩, .bool false, .string ⟨#[]⟩, .bool false, .string ⟨#[]⟩, .bool false, .string ⟨#[]⟩, .bool false, .bool false, .bool false] := ⟨Tryz.underlying103, Tryz.t86, _, Tryz.type86, rfl, rfl, rfl, rfl, rfl, by decide, by decide⟩
theorem qU : SlT Tryz.prog 317 321 12 128 [.bool false, .string ⟨#[]⟩, .bool false, .string ⟨#[]⟩, .bool false, .string ⟨#[]⟩, .bool false, .string ⟨#[]⟩, .bool false, .bool false, .int .i64 0, .int .i64 0] := ⟨nn317, Tryz.t321, _, Tryz.type321, rfl, rfl, rfl, rfl, rfl, by decide, by decide⟩
theorem slt318 : SlT Tryz.prog 318 103 1 24 [.slice none 0 0] := ⟨Tryz.underlying318, Tryz.t103, _, Tryz.type103, rfl, rfl, rfl, rfl, rfl, by decide, by decide⟩
end Go.Sx
namespace Go.Sx
open Go Go.RowKit Go.Proofs
set_option maxRecDepth 100000
set_option maxHeartbeats 40000000
attribute [local irreducible] aE bM ap aT aJ dF
def l5 (a : List Iv) (b : List Iv) (l : List Ev) (x32 : Nat) (l2 : List Ev) (x322 : Nat) (out : List Iv) (in_ : Bool) (x59 : Nat) (from_ : Bd) (n : I2) : (List Iv) :=
 out
def cn (a : List Iv) (b : List Iv) (l : List Ev) (x32 : Nat) (l2 : List Ev) (x322 : Nat) (out : List Iv) (in_ : Bool) (x59 : Nat) (from_ : Bd) (n : I2) : Nx ((List Iv) × Bool × Nat × Bd × I2) (List Iv) :=
 bif (decide (((x59 : Nat) : Int) < (((an l2).length : Nat) : Int))) then
  bif ((decide (((x59 + 1 : Nat) : Int) < (((an l2).length : Nat) : Int))) && ((aR ((gt (an l2) x59).at_) ((gt (an l2) (x59 + 1)).at_)) == 0)) then
   .go (out, in_, (x59 + 1), from_, (⟨(n.n0 + ((gt (an l2) x59).b0)), (n.n1 + ((gt (an l2) x59).b1))⟩ : I2))
  else
   bif ((bu (decide ((n.n0 + ((gt (an l2) x59).b0)) > 0)) (decide ((n.n1 + ((gt (an l2) x59).b1)) > 0))) && (!in_)) then
    .go (out, (bu (decide ((n.n0 + ((gt (an l2) x59).b0)) > 0)) (decide ((n.n1 + ((gt (an l2) x59).b1)) > 0))), (x59 + 1), (gt (an l2) x59).at_, (⟨(n.n0 + ((gt (an l2) x59).b0)), (n.n1 + ((gt (an l2) x59).b1))⟩ : I2))
   else
    bif ((!(bu (decide ((n.n0 + ((gt (an l2) x59).b0)) > 0)) (decide ((n.n1 + ((gt (an l2) x59).b1)) > 0)))) && in_) then
     .go ((out ++ [(cc from_ ((gt (an l2) x59).at_))]), (bu (decide ((n.n0 + ((gt (an l2) x59).b0)) > 0)) (decide ((n.n1 + ((gt (an l2) x59).b1)) > 0))), (x59 + 1), from_, (⟨(n.n0 + ((gt (an l2) x59).b0)), (n.n1 + ((gt (an l2) x59).b1))⟩ : I2))
    else
     .go (out, (bu (decide ((n.n0 + ((gt (an l2) x59).b0)) > 0)) (decide ((n.n1 + ((gt (an l2) x59).b1)) > 0))), (x59 + 1), from_, (⟨(n.n0 + ((gt (an l2) x59).b0)), (n.n1 + ((gt (an l2) x59).b1))⟩ : I2))
 else
  .out (out, in_, x59, from_, n)
def iE (a : List Iv) (b : List Iv) (l : List Ev) (x32 : Nat) (l2 : List Ev) (x322 : Nat) : (List Iv) :=
 fin (bR (fun s => cn a b l x32 l2 x322 s.1 s.2.1 s.2.2.1 s.2.2.2.1 s.2.2.2.2) (((an l2).length - 0) + 1) ([], false, 0, (⟨(⟨(⟨(⟨false, 0⟩ : GI), (⟨false, 0⟩ : GI)⟩ : GQ), (⟨(⟨false, 0⟩ : GI), (⟨false, 0⟩ : GI)⟩ : GQ), false⟩ : GR), false⟩ : Bd), (⟨0, 0⟩ : I2))) (fun s => l5 a b l x32 l2 x322 s.1 s.2.1 s.2.2.1 s.2.2.2.1 s.2.2.2.2) (fun r => r)
def dN (a : List Iv) (b : List Iv) (l : List Ev) (x32 : Nat) (l2 : List Ev) (x322 : Nat) : Nx ((List Ev) × Nat) (List Iv) :=
 bif (decide (((x322 : Nat) : Int) < ((b.length : Nat) : Int))) then
  .go ((l2 ++ [(⟨(ay (gt b x322)), 0, 1⟩ : Ev), (⟨(aI (gt b x322)), 0, (-1)⟩ : Ev)]), (x322 + 1))
 else
  .out (l2, x322)
def iF (a : List Iv) (b : List Iv) (l : List Ev) (x32 : Nat) : (List Iv) :=
 fin (bR (fun s => dN a b l x32 s.1 s.2) ((b.length - 0) + 1) (l, 0)) (fun s => iE a b l x32 s.1 s.2) (fun r => r)
def dO (a : List Iv) (b : List Iv) (l : List Ev) (x32 : Nat) : Nx ((List Ev) × Nat) (List Iv) :=
 bif (decide (((x32 : Nat) : Int) < ((a.length : Nat) : Int))) then
  .go ((l ++ [(⟨(ay (gt a x32)), 1, 0⟩ : Ev), (⟨(aI (gt a x32)), (-1), 0⟩ : Ev)]), (x32 + 1))
 else
  .out (l, x32)
def eS (a : List Iv) (b : List Iv) : (List Iv) :=
 fin (bR (fun s => dO a b s.1 s.2) ((a.length - 0) + 1) ([], 0)) (fun s => iF a b s.1 s.2) (fun r => r)
theorem jP (a : List Iv) (av : Value) (b : List Iv) (bv : Value) (hla : a.length ≤ 200) (hlb : b.length ≤ 200) (hwa : ∀ i ∈ a, Wv i) (hwb : ∀ i ∈ b, Wv i) (za : All (SzV 30) a) (zb : All (SzV 30) b) (w0 : World) (hav : View w0 av a) (hbv : View w0 bv b) : Calls Tryz.prog 180 #[av, bv, (.func (.func 244) #[] #[])] w0 (RetR w0 86 (eS a b) (All (SzV 30) (eS a b) ∧ (eS a b).length ≤ 2 * a.length + 2 * b.length)) := by
 refine enter (N := 127) (args := [av, bv, (.func (.func 244) #[] #[])]) Tryz.func180 rfl rfl ?_; intro ac h
 have hlena := hav.len
 have hlenb := hbv.len
 refine ej fun K1 hK1 => ?_
 refine rd0 h (aj rfl) rfl <| gn hK1 <| gr fun K2 hK2 => g0 (aj rfl) rfl <| gn hK2 <| gq fun K3 hK3 => gr fun K4 hK4 => g0 (ak rfl) rfl <| g0 (ak rfl) rfl ?_; clear h ac; intro ac wo h
 refine bsl h slt318 rfl rfl (SL.is hav.sl) (SL.is hbv.sl) rfl ?_; clear h ac wo; intro b1 ac wo h
 refine rd0 h (et uu318 rfl (n := 2) ⟨_, _, rfl⟩) rfl <| g0 (ak rfl) rfl <| gn hK4 <| gB ?_; clear h ac wo; intro ac wo h
 refine pu 2 ?_
 refine gz h <| gr fun K5 hK5 => g0 (d5 rfl rfl) rfl <| gn hK5 <| gq fun K6 hK6 => ?_; clear h ac wo; intro ac wo h
 refine ue h rfl ?_
 refine gz h <| gS <| gx hK6 <| gq fun K7 hK7 => gB <| gr fun K8 hK8 => g0 (ak rfl) rfl <| g0 (eC (n := 2) (i := 0) uu318 zz103 rfl rfl ⟨_, _, _, rfl⟩ (by decide)) rfl <| g1 0 rfl (ba (k := 0) Tryz.isAgg103 zz103 rfl rfl rfl (v := av) rfl) rfl <| g0 (aj rfl) rfl <| g0 (aj rfl) rfl <| gn hK8 <| gr fun K9 hK9 => g0 (ak rfl) rfl <| g0 (et uu103 rfl hav.sl) rfl <| g0 (ak rfl) rfl <| gn hK9 <| gB ?_; clear h ac wo; intro ac wo h
 replace h := h.nilRow (α := Ev) 321
 obtain ⟨X1, hX1⟩ : ∃ X, bR (fun s => dO a b s.1 s.2) ((a.length - 0) + 1) ([], 0) = X := ⟨_, rfl⟩
 refine wp_loop_ghost (fun n_ a_ w_ => ∃ (l : List Ev) (x32 : Nat) (lv : Value), ((a.length - x32) < n_) ∧ (bR (fun s => dO a b s.1 s.2) n_ (l, x32) = X1) ∧ (x32 ≤ a.length) ∧ (All (SzE 30) l) ∧ (l.length = 2 * x32) ∧ (∀ e ∈ l, EvB e) ∧ (l = evA (a.take x32)) ∧ St w0 127 [(2, (.func (.func 244) #[] #[])), (7, lv), (8, (.int .i64 0)), (23, (.slice (some ⟨b1, 0, none⟩) 2 2)), (24, (.int .i64 2)), (25, (.int .i64 0)), (30, av), (31, (.int .i64 ((a.length : Nat) : Int))), (32, (.int .i64 ((x32 : Nat) : Int)))] [.row (α := Ev) 321 lv l, .blk b1 [av, bv] 103] a_ w_) ((a.length - 0) + 1) ⟨[], 0, (.slice none 0 0), (by omega), hX1, (by first | omega | grind), All.nil, (by first | omega | grind), evb_nil, rfl, (h.sub ⟨rfl, rfl, rfl, rfl, rfl, rfl, rfl, rfl, rfl, trivial⟩)⟩ ?_
 clear h ac wo; rintro n1 ac wo ⟨l, x32, lv, hm1, hL1, hx32, zl, hll, hlb_, hle, h⟩
 obtain ⟨m1, rfl⟩ : ∃ m, n1 = m + 1 := ⟨n1 - 1, by omega⟩
 refine gz h <| gr fun K10 hK10 => g0 (d5 rfl rfl) rfl <| gn hK10 <| gq fun K11 hK11 => ?_; clear h ac wo; intro ac wo h
 refine dA h rfl (fun hc1 => ?_) (fun hc1 => ?_)
 ·skip
  have hd1 := of_decide_eq_true hc1
  refine gz h <| gS <| gx hK11 <| gq fun K12 hK12 => gB <| gr fun K13 hK13 => g0 (eC (i := x32) uu103 zz86 rfl rfl (hav.nn (i := x32) (by omega)) (by omega)) rfl <| g0 (iR (k := 0) aa86 zz86 hav (cK (by omega)) rfl (Nat.add_zero _) rfl rfl (v := (vV (gt a x32))) rfl) rfl <| ga (cV (⟨(⟨oQ, oQ, false⟩ : GR), (⟨oQ, oQ, false⟩ : GR), false, false⟩ : Iv)) vv86 rfl rfl fun b2 => gs 0 (cV (gt a x32)) rfl zz86 rfl rfl rfl rfl rfl rfl rfl <| gn hK13 <| gq fun K14 hK14 => ?_; clear h ac wo; intro ac wo h
  have s2 := Calls.pr ((fun w_ hB_ hS_ => em (gt a x32) (All.gt za (jG _)) w_ ) _ h.bel h.sep)
  have s3 := Calls.pr ((fun w_ hB_ hS_ => eE (gt a x32) (All.gt za (jG _)) w_ ) _ h.bel h.sep)
  replace h := h.emps 2
  refine cZ mixed [⟨.det (vV (gt a x32)), [0]⟩, ⟨.det (vW (ay (gt a x32))), []⟩, ⟨.det (vE (⟨(ay (gt a x32)), 0, 0⟩ : Ev)), []⟩, ⟨.det (vV (gt a x32)), [0]⟩, ⟨.det (vW (aI (gt a x32))), []⟩, ⟨.det (vE (⟨(aI (gt a x32)), 0, 0⟩ : Ev)), []⟩, ⟨.nd (.one 6 fun v => ∃ b, v = ptr b 0), [3]⟩, ⟨.nd (.one 7 fun v => ∃ b, v = ptr b 0), [4]⟩, ⟨.det undef, [3]⟩, ⟨.det undef, [4]⟩] [⟨.blk b2 (cV (gt a x32)) 86, []⟩, ⟨.row (α := Ev) 321 lv l, []⟩, ⟨.blk b1 [av, bv] 103, []⟩, ⟨.emp, [(6, .one 6 fun v => .blk (ck v) (cE (⟨(⟨(⟨oQ, oQ, false⟩ : GR), false⟩ : Bd), 0, 0⟩ : Ev)) 321), (8, .one 6 fun v => .blk (ck v) (cE (⟨(ay (gt a x32)), 0, 0⟩ : Ev)) 321)]⟩, ⟨.emp, [(7, .one 7 fun v => .blk (ck v) (cE (⟨(⟨(⟨oQ, oQ, false⟩ : GR), false⟩ : Bd), 0, 0⟩ : Ev)) 321), (9, .one 7 fun v => .blk (ck v) (cE (⟨(aI (gt a x32)), 0, 0⟩ : Ev)) 321)]⟩] h rfl (by kernel_rfl) ⟨?_, ?_, ?_, ?_, ?_, ?_, ?_, ?_, ?_, ?_, trivial⟩ ?_
  ·intro ξ hφ; exact cY [.blk b2 (cV (gt a x32)) 86] rfl rfl (ba aa86 zz86 rfl rfl rfl (v := (vV (gt a x32))) rfl)
  ·intro ξ hφ; exact d7 (dy (vs := [(vV (gt a x32))]) (bF Tryz.call136 rfl) (fun w_ hB_ hS_ => em (gt a x32) (All.gt za (jG _)) w_ ))
  ·intro ξ hφ; exact aL (cg ry rfl rfl (v := (vE (⟨(ay (gt a x32)), 0, 0⟩ : Ev))) rfl)
  ·intro ξ hφ; exact cY [.blk b2 (cV (gt a x32)) 86] rfl rfl (ba aa86 zz86 rfl rfl rfl (v := (vV (gt a x32))) rfl)
  ·intro ξ hφ; exact d7 (dy (bF Tryz.call137 rfl) (kk (eE (gt a x32) (All.gt za (jG _)))))
  ·intro ξ hφ; exact aL (cg ry rfl rfl (v := (vE (⟨(aI (gt a x32)), 0, 0⟩ : Ev))) rfl)
  ·intro ξ hφ; exact k7 (ψ := fun v => ∃ b, v = ptr b 0) (B := fun v => [.blk (ck v) (cE (⟨(⟨(⟨oQ, oQ, false⟩ : GR), false⟩ : Bd), 0, 0⟩ : Ev)) 321]) [.emp] rfl (fun v _ => by simp only [fc, bE] <;> rfl) (fun v hv => by simpa [DF.one, bE] using hv) (iQ (fv vv321 rfl))
  ·intro ξ hφ; exact k7 (ψ := fun v => ∃ b, v = ptr b 0) (B := fun v => [.blk (ck v) (cE (⟨(⟨(⟨oQ, oQ, false⟩ : GR), false⟩ : Bd), 0, 0⟩ : Ev)) 321]) [.emp] rfl (fun v _ => by simp only [fc, bE] <;> rfl) (fun v hv => by simpa [DF.one, bE] using hv) (iQ (fv vv321 rfl))
  ·intro ξ hφ; obtain ⟨b3, hb6⟩ := hφ 6 rfl; exact gF [.blk b3 (cE (⟨(⟨(⟨oQ, oQ, false⟩ : GR), false⟩ : Bd), 0, 0⟩ : Ev)) 321] [.blk b3 (cE (⟨(ay (gt a x32)), 0, 0⟩ : Ev)) 321] (congrArg (fun v => [Asn.blk (ck v) (cE (⟨(⟨(⟨oQ, oQ, false⟩ : GR), false⟩ : Bd), 0, 0⟩ : Ev)) 321]) hb6) (congrArg (fun v => [Asn.blk (ck v) (cE (⟨(ay (gt a x32)), 0, 0⟩ : Ev)) 321]) hb6) (gW zz321 (Eq.trans rfl (congrArg some hb6)) rfl rfl rfl rfl rfl rfl)
  ·intro ξ hφ; obtain ⟨b4, hb7⟩ := hφ 7 rfl; exact gF [.blk b4 (cE (⟨(⟨(⟨oQ, oQ, false⟩ : GR), false⟩ : Bd), 0, 0⟩ : Ev)) 321] [.blk b4 (cE (⟨(aI (gt a x32)), 0, 0⟩ : Ev)) 321] (congrArg (fun v => [Asn.blk (ck v) (cE (⟨(⟨(⟨oQ, oQ, false⟩ : GR), false⟩ : Bd), 0, 0⟩ : Ev)) 321]) hb7) (congrArg (fun v => [Asn.blk (ck v) (cE (⟨(aI (gt a x32)), 0, 0⟩ : Ev)) 321]) hb7) (gW zz321 (Eq.trans rfl (congrArg some hb7)) rfl rfl rfl rfl rfl rfl)
  clear h ac wo; intro ξ ac wo hφ h
  replace h : St w0 127 [(2, (.func (.func 244) #[] #[])), (7, lv), (8, (.int .i64 0)), (23, (.slice (some ⟨b1, 0, none⟩) 2 2)), (24, (.int .i64 2)), (25, (.int .i64 0)), (30, av), (31, (.int .i64 ((a.length : Nat) : Int))), (32, (.int .i64 ((x32 : Nat) : Int))), (12, ξ 6), (13, ξ 7)] [.blk b2 (cV (gt a x32)) 86, .row (α := Ev) 321 lv l, .blk b1 [av, bv] 103, .blk (ck (ξ 6)) (cE (⟨(ay (gt a x32)), 0, 0⟩ : Ev)) 321, .blk (ck (ξ 7)) (cE (⟨(aI (gt a x32)), 0, 0⟩ : Ev)) 321] ac wo := (h.pick [0, 1, 2, 3, 4] (by decide)).sub ⟨rfl, rfl, rfl, rfl, rfl, rfl, rfl, rfl, rfl, rfl, rfl, trivial⟩
  revert h
  obtain ⟨b3, hb6⟩ : ∃ b, ξ 6 = ptr b 0 := hφ 6
  obtain ⟨b4, hb7⟩ : ∃ b, ξ 7 = ptr b 0 := hφ 7
  rw [hb6, hb7]; intro h
  clear hb6 hb7
  clear hφ ξ
  refine gz h <| gx hK14 <| gr fun K15 hK15 => g0 (ak rfl) rfl <| g0 (ak rfl) rfl <| g0 (fa uu321 rfl zz319 rfl rfl rfl (k' := 10)) rfl <| g0 (kA (i := 0) uu319 zz3 rfl rfl (by decide)) rfl <| gs 3 (cE (⟨(ay (gt a x32)), 1, 0⟩ : Ev)) rfl zz3 rfl rfl rfl rfl rfl rfl rfl <| g0 (fa uu321 rfl zz319 rfl rfl rfl (k' := 10)) rfl <| g0 (kA (i := 0) uu319 zz3 rfl rfl (by decide)) rfl <| gs 4 (cE (⟨(aI (gt a x32)), (-1), 0⟩ : Ev)) rfl zz3 rfl rfl rfl rfl rfl rfl rfl <| gn hK15 <| gR <| g0 (ak rfl) rfl <| g1 3 rfl (ba aa321 zz321 rfl rfl rfl (v := (vE (⟨(ay (gt a x32)), 1, 0⟩ : Ev))) rfl) rfl <| g1 4 rfl (ba aa321 zz321 rfl rfl rfl (v := (vE (⟨(aI (gt a x32)), (-1), 0⟩ : Ev))) rfl) rfl ?_; clear h ac wo; intro ac wo h
  refine nw h (dq (α := Ev) (xs := [.tmp 49, .tmp 50]) (vs := [(vE (⟨(ay (gt a x32)), 1, 0⟩ : Ev)), (vE (⟨(aI (gt a x32)), (-1), 0⟩ : Ev))]) [(⟨(ay (gt a x32)), 1, 0⟩ : Ev), (⟨(aI (gt a x32)), (-1), 0⟩ : Ev)] qU rfl rfl rfl (by decide)) rfl ?_; clear h ac wo; intro sv4 ac wo nnsv4 h
  refine on2 h 2 0 rfl rfl (fl (xs := l) (ys := [(⟨(ay (gt a x32)), 1, 0⟩ : Ev), (⟨(aI (gt a x32)), (-1), 0⟩ : Ev)]) qU (fun w hs => (row_view hs 0 rfl)) rfl rfl (by first | omega | grind)) rfl ?_; clear h ac wo; intro sv5 ac wo apsv5 h
  refine rd0 h (aj rfl) rfl <| gx (fun _ _ => bV) <| gN <| gx hK12 <| gR <| g0 (ch rfl rfl (r := ((x32 + 1 : Nat) : Int)) (by rw [wI]; omega)) rfl <| g0 (ak rfl) rfl <| gx (fun _ _ => bV) ?_; clear h ac wo; intro ac wo h
  exact aU ⟨m1, (by omega), _, _, _, (by first | omega | grind), co hL1 (show dO a b l x32 = .go _ from (cT hc1)), (by first | omega | grind), (All.app zl (All.cons s2 (All.cons s3 All.nil))), (by first | omega | grind), (tI hlb_ ⟨⟨by decide, by decide⟩, ⟨by decide, by decide⟩⟩ ⟨⟨by decide, by decide⟩, ⟨by decide, by decide⟩⟩), (evA_next hle (by omega)), (h.pick [0, 3] (by decide)).sub ⟨rfl, rfl, rfl, rfl, rfl, rfl, rfl, rfl, rfl, trivial⟩⟩
 ·skip
  have hd1 := of_decide_eq_false hc1
  refine ep ?_
  have hx1 := dU hL1 (show dO a b l x32 = .out (l, x32) from (cF hc1))
  refine gz h <| gx hK7 <| gR <| g0 (ch rfl rfl (r := 1) (by decide)) rfl <| g0 (ak rfl) rfl <| gx (fun _ _ => bV) ?_; clear h ac wo; intro ac wo h
  refine pF ?_
  refine gz h <| gr fun K16 hK16 => g0 (d5 rfl rfl) rfl <| gn hK16 <| gq fun K17 hK17 => ?_; clear h ac wo; intro ac wo h
  refine ue h rfl ?_
  refine gz h <| gS <| gx hK17 <| gq fun K18 hK18 => gB <| gr fun K19 hK19 => g0 (ak rfl) rfl <| g0 (eC (n := 2) (i := 1) uu318 zz103 rfl rfl ⟨_, _, _, rfl⟩ (by decide)) rfl <| g1 1 rfl (ba (k := 1) Tryz.isAgg103 zz103 rfl rfl rfl (v := bv) rfl) rfl <| g0 (aj rfl) rfl <| g0 (aj rfl) rfl <| gn hK19 <| gr fun K20 hK20 => g0 (ak rfl) rfl <| g0 (et uu103 rfl hbv.sl) rfl <| g0 (ak rfl) rfl <| gn hK20 <| gB ?_; clear h ac wo; intro ac wo h
  obtain ⟨X2, hX2⟩ : ∃ X, bR (fun s => dN a b l x32 s.1 s.2) ((b.length - 0) + 1) (l, 0) = X := ⟨_, rfl⟩
  refine wp_loop_ghost (fun n_ a_ w_ => ∃ (l2 : List Ev) (x322 : Nat) (l2v : Value), ((b.length - x322) < n_) ∧ (bR (fun s => dN a b l x32 s.1 s.2) n_ (l2, x322) = X2) ∧ (x322 ≤ b.length) ∧ (All (SzE 30) l2) ∧ (l2.length = 2 * a.length + 2 * x322) ∧ (∀ e ∈ l2, EvB e) ∧ (l2 = evA a ++ evB (b.take x322)) ∧ St w0 127 [(2, (.func (.func 244) #[] #[])), (7, l2v), (8, (.int .i64 1)), (23, (.slice (some ⟨b1, 0, none⟩) 2 2)), (24, (.int .i64 2)), (25, (.int .i64 1)), (30, bv), (31, (.int .i64 ((b.length : Nat) : Int))), (32, (.int .i64 ((x322 : Nat) : Int)))] [.row (α := Ev) 321 l2v l2, .blk b1 [av, bv] 103] a_ w_) ((b.length - 0) + 1) ⟨l, 0, lv, (by omega), hX2, (by omega), zl, (by omega), hlb_, (by rw [hle, List.take_of_length_le (by omega)]; simp [evB]), (h.sub ⟨rfl, rfl, rfl, rfl, rfl, rfl, rfl, rfl, rfl, trivial⟩)⟩ ?_
  clear h ac wo; rintro n2 ac wo ⟨l2, x322, l2v, hm2, hL2, hx322, zl2, hll2, hlb2, hle2, h⟩
  obtain ⟨m2, rfl⟩ : ∃ m, n2 = m + 1 := ⟨n2 - 1, by omega⟩
  refine gz h <| gr fun K21 hK21 => g0 (d5 rfl rfl) rfl <| gn hK21 <| gq fun K22 hK22 => ?_; clear h ac wo; intro ac wo h
  refine dA h rfl (fun hc2 => ?_) (fun hc2 => ?_)
  ·skip
   have hd2 := of_decide_eq_true hc2
   refine gz h <| gS <| gx hK22 <| gq fun K23 hK23 => gB <| gr fun K24 hK24 => g0 (eC (i := x322) uu103 zz86 rfl rfl (hbv.nn (i := x322) (by omega)) (by omega)) rfl <| g0 (iR (k := 0) aa86 zz86 hbv (cK (by omega)) rfl (Nat.add_zero _) rfl rfl (v := (vV (gt b x322))) rfl) rfl <| ga (cV (⟨(⟨oQ, oQ, false⟩ : GR), (⟨oQ, oQ, false⟩ : GR), false, false⟩ : Iv)) vv86 rfl rfl fun b5 => gs 0 (cV (gt b x322)) rfl zz86 rfl rfl rfl rfl rfl rfl rfl <| gn hK24 <| gq fun K25 hK25 => ?_; clear h ac wo; intro ac wo h
   have s6 := Calls.pr ((fun w_ hB_ hS_ => em (gt b x322) (All.gt zb (jG _)) w_ ) _ h.bel h.sep)
   have s7 := Calls.pr ((fun w_ hB_ hS_ => eE (gt b x322) (All.gt zb (jG _)) w_ ) _ h.bel h.sep)
   replace h := h.emps 2
   refine cZ mixed [⟨.det (vV (gt b x322)), [0]⟩, ⟨.det (vW (ay (gt b x322))), []⟩, ⟨.det (vE (⟨(ay (gt b x322)), 0, 0⟩ : Ev)), []⟩, ⟨.det (vV (gt b x322)), [0]⟩, ⟨.det (vW (aI (gt b x322))), []⟩, ⟨.det (vE (⟨(aI (gt b x322)), 0, 0⟩ : Ev)), []⟩, ⟨.nd (.one 6 fun v => ∃ b, v = ptr b 0), [3]⟩, ⟨.nd (.one 7 fun v => ∃ b, v = ptr b 0), [4]⟩, ⟨.det undef, [3]⟩, ⟨.det undef, [4]⟩] [⟨.blk b5 (cV (gt b x322)) 86, []⟩, ⟨.row (α := Ev) 321 l2v l2, []⟩, ⟨.blk b1 [av, bv] 103, []⟩, ⟨.emp, [(6, .one 6 fun v => .blk (ck v) (cE (⟨(⟨(⟨oQ, oQ, false⟩ : GR), false⟩ : Bd), 0, 0⟩ : Ev)) 321), (8, .one 6 fun v => .blk (ck v) (cE (⟨(ay (gt b x322)), 0, 0⟩ : Ev)) 321)]⟩, ⟨.emp, [(7, .one 7 fun v => .blk (ck v) (cE (⟨(⟨(⟨oQ, oQ, false⟩ : GR), false⟩ : Bd), 0, 0⟩ : Ev)) 321), (9, .one 7 fun v => .blk (ck v) (cE (⟨(aI (gt b x322)), 0, 0⟩ : Ev)) 321)]⟩] h rfl (by kernel_rfl) ⟨?_, ?_, ?_, ?_, ?_, ?_, ?_, ?_, ?_, ?_, trivial⟩ ?_
   ·intro ξ hφ; exact cY [.blk b5 (cV (gt b x322)) 86] rfl rfl (ba aa86 zz86 rfl rfl rfl (v := (vV (gt b x322))) rfl)
   ·intro ξ hφ; exact d7 (dy (vs := [(vV (gt b x322))]) (bF Tryz.call136 rfl) (fun w_ hB_ hS_ => em (gt b x322) (All.gt zb (jG _)) w_ ))
   ·intro ξ hφ; exact aL (cg ry rfl rfl (v := (vE (⟨(ay (gt b x322)), 0, 0⟩ : Ev))) rfl)
   ·intro ξ hφ; exact cY [.blk b5 (cV (gt b x322)) 86] rfl rfl (ba aa86 zz86 rfl rfl rfl (v := (vV (gt b x322))) rfl)
   ·intro ξ hφ; exact d7 (dy (bF Tryz.call137 rfl) (kk (eE (gt b x322) (All.gt zb (jG _)))))
   ·intro ξ hφ; exact aL (cg ry rfl rfl (v := (vE (⟨(aI (gt b x322)), 0, 0⟩ : Ev))) rfl)
   ·intro ξ hφ; exact k7 (ψ := fun v => ∃ b, v = ptr b 0) (B := fun v => [.blk (ck v) (cE (⟨(⟨(⟨oQ, oQ, false⟩ : GR), false⟩ : Bd), 0, 0⟩ : Ev)) 321]) [.emp] rfl (fun v _ => by simp only [fc, bE] <;> rfl) (fun v hv => by simpa [DF.one, bE] using hv) (iQ (fv vv321 rfl))
   ·intro ξ hφ; exact k7 (ψ := fun v => ∃ b, v = ptr b 0) (B := fun v => [.blk (ck v) (cE (⟨(⟨(⟨oQ, oQ, false⟩ : GR), false⟩ : Bd), 0, 0⟩ : Ev)) 321]) [.emp] rfl (fun v _ => by simp only [fc, bE] <;> rfl) (fun v hv => by simpa [DF.one, bE] using hv) (iQ (fv vv321 rfl))
   ·intro ξ hφ; obtain ⟨b6, hb6⟩ := hφ 6 rfl; exact gF [.blk b6 (cE (⟨(⟨(⟨oQ, oQ, false⟩ : GR), false⟩ : Bd), 0, 0⟩ : Ev)) 321] [.blk b6 (cE (⟨(ay (gt b x322)), 0, 0⟩ : Ev)) 321] (congrArg (fun v => [Asn.blk (ck v) (cE (⟨(⟨(⟨oQ, oQ, false⟩ : GR), false⟩ : Bd), 0, 0⟩ : Ev)) 321]) hb6) (congrArg (fun v => [Asn.blk (ck v) (cE (⟨(ay (gt b x322)), 0, 0⟩ : Ev)) 321]) hb6) (gW zz321 (Eq.trans rfl (congrArg some hb6)) rfl rfl rfl rfl rfl rfl)
   ·intro ξ hφ; obtain ⟨b7, hb7⟩ := hφ 7 rfl; exact gF [.blk b7 (cE (⟨(⟨(⟨oQ, oQ, false⟩ : GR), false⟩ : Bd), 0, 0⟩ : Ev)) 321] [.blk b7 (cE (⟨(aI (gt b x322)), 0, 0⟩ : Ev)) 321] (congrArg (fun v => [Asn.blk (ck v) (cE (⟨(⟨(⟨oQ, oQ, false⟩ : GR), false⟩ : Bd), 0, 0⟩ : Ev)) 321]) hb7) (congrArg (fun v => [Asn.blk (ck v) (cE (⟨(aI (gt b x322)), 0, 0⟩ : Ev)) 321]) hb7) (gW zz321 (Eq.trans rfl (congrArg some hb7)) rfl rfl rfl rfl rfl rfl)
   clear h ac wo; intro ξ ac wo hφ h
   replace h : St w0 127 [(2, (.func (.func 244) #[] #[])), (7, l2v), (8, (.int .i64 1)), (23, (.slice (some ⟨b1, 0, none⟩) 2 2)), (24, (.int .i64 2)), (25, (.int .i64 1)), (30, bv), (31, (.int .i64 ((b.length : Nat) : Int))), (32, (.int .i64 ((x322 : Nat) : Int))), (12, ξ 6), (13, ξ 7)] [.blk b5 (cV (gt b x322)) 86, .row (α := Ev) 321 l2v l2, .blk b1 [av, bv] 103, .blk (ck (ξ 6)) (cE (⟨(ay (gt b x322)), 0, 0⟩ : Ev)) 321, .blk (ck (ξ 7)) (cE (⟨(aI (gt b x322)), 0, 0⟩ : Ev)) 321] ac wo := (h.pick [0, 1, 2, 3, 4] (by decide)).sub ⟨rfl, rfl, rfl, rfl, rfl, rfl, rfl, rfl, rfl, rfl, rfl, trivial⟩
   revert h
   obtain ⟨b6, hb6⟩ : ∃ b, ξ 6 = ptr b 0 := hφ 6
   obtain ⟨b7, hb7⟩ : ∃ b, ξ 7 = ptr b 0 := hφ 7
   rw [hb6, hb7]; intro h
   clear hb6 hb7
   clear hφ ξ
   refine gz h <| gx hK25 <| gr fun K26 hK26 => g0 (ak rfl) rfl <| g0 (ak rfl) rfl <| g0 (fa uu321 rfl zz319 rfl rfl rfl (k' := 10)) rfl <| g0 (kA (i := 1) uu319 zz3 rfl rfl (by decide)) rfl <| gs 3 (cE (⟨(ay (gt b x322)), 0, 1⟩ : Ev)) rfl zz3 rfl rfl rfl rfl rfl rfl rfl <| g0 (fa uu321 rfl zz319 rfl rfl rfl (k' := 10)) rfl <| g0 (kA (i := 1) uu319 zz3 rfl rfl (by decide)) rfl <| gs 4 (cE (⟨(aI (gt b x322)), 0, (-1)⟩ : Ev)) rfl zz3 rfl rfl rfl rfl rfl rfl rfl <| gn hK26 <| gR <| g0 (ak rfl) rfl <| g1 3 rfl (ba aa321 zz321 rfl rfl rfl (v := (vE (⟨(ay (gt b x322)), 0, 1⟩ : Ev))) rfl) rfl <| g1 4 rfl (ba aa321 zz321 rfl rfl rfl (v := (vE (⟨(aI (gt b x322)), 0, (-1)⟩ : Ev))) rfl) rfl ?_; clear h ac wo; intro ac wo h
   refine nw h (dq (α := Ev) (xs := [.tmp 49, .tmp 50]) (vs := [(vE (⟨(ay (gt b x322)), 0, 1⟩ : Ev)), (vE (⟨(aI (gt b x322)), 0, (-1)⟩ : Ev))]) [(⟨(ay (gt b x322)), 0, 1⟩ : Ev), (⟨(aI (gt b x322)), 0, (-1)⟩ : Ev)] qU rfl rfl rfl (by decide)) rfl ?_; clear h ac wo; intro sv8 ac wo nnsv8 h
   refine on2 h 2 0 rfl rfl (fl (xs := l2) (ys := [(⟨(ay (gt b x322)), 0, 1⟩ : Ev), (⟨(aI (gt b x322)), 0, (-1)⟩ : Ev)]) qU (fun w hs => (row_view hs 0 rfl)) rfl rfl (by first | omega | grind)) rfl ?_; clear h ac wo; intro sv9 ac wo apsv9 h
   refine rd0 h (aj rfl) rfl <| gx (fun _ _ => bV) <| gN <| gx hK23 <| gR <| g0 (ch rfl rfl (r := ((x322 + 1 : Nat) : Int)) (by rw [wI]; omega)) rfl <| g0 (ak rfl) rfl <| gx (fun _ _ => bV) ?_; clear h ac wo; intro ac wo h
   exact aU ⟨m2, (by omega), _, _, _, (by first | omega | grind), co hL2 (show dN a b l x32 l2 x322 = .go _ from (cT hc2)), (by first | omega | grind), (All.app zl2 (All.cons s6 (All.cons s7 All.nil))), (by first | omega | grind), (tI hlb2 ⟨⟨by decide, by decide⟩, ⟨by decide, by decide⟩⟩ ⟨⟨by decide, by decide⟩, ⟨by decide, by decide⟩⟩), (evB_next hle2 (by omega)), (h.pick [0, 3] (by decide)).sub ⟨rfl, rfl, rfl, rfl, rfl, rfl, rfl, rfl, rfl, trivial⟩⟩
  ·skip
   have hd2 := of_decide_eq_false hc2
   refine ep ?_
   have hx2 := dU hL2 (show dN a b l x32 l2 x322 = .out (l2, x322) from (cF hc2))
   refine gz h <| gx hK18 <| gR <| g0 (ch rfl rfl (r := 2) (by decide)) rfl <| g0 (ak rfl) rfl <| gx (fun _ _ => bV) ?_; clear h ac wo; intro ac wo h
   refine pF ?_
   refine gz h <| gr fun K27 hK27 => g0 (d5 rfl rfl) rfl <| gn hK27 <| gq fun K28 hK28 => ?_; clear h ac wo; intro ac wo h
   refine nP h rfl ?_
   refine ep ?_
   refine hK3 _ _ ?_
   refine ej fun K29 hK29 => ?_
   have hT2 : ∀ e ∈ l2, Tm e.at_.at_ := by rw [hle2, List.take_of_length_le (by omega)]; exact ev_tm hwa hwb
   refine rd0 h (ak rfl) rfl ?_; clear h ac wo; intro ac wo h
   refine on1 h 0 rfl (nI (vs := [l2v, (.func (.func 246) #[] #[])]) (A := fun v => [.row (α := Ev) 321 l2v (an l2)]) (bF Tryz.call245 rfl) (fun w_ B_ hB_ hS_ => jJ l2 l2v (by omega) hT2 zl2 w0 w_ B_ hB_ hS_ )) rfl ?_; clear h ac wo; intro vc ac wo s11 h
   obtain rfl : vc = _ := s11.1
   have p12 := s11.2.2
   refine gz h <| gn hK29 <| gr fun K30 hK30 => g0 (aj rfl) rfl <| gn hK30 <| gr fun K31 hK31 => ga (cJ (⟨0, 0⟩ : I2)) Tryz.zeroValue319 rfl rfl fun b8 => gn hK31 <| gr fun K32 hK32 => ga (cW (⟨(⟨oQ, oQ, false⟩ : GR), false⟩ : Bd)) Tryz.zeroValue206 rfl rfl fun b9 => gn hK32 <| gr fun K33 hK33 => g0 (aj rfl) rfl <| gn hK33 <| gq fun K34 hK34 => gr fun K35 hK35 => g0 (ak rfl) rfl ?_; clear h ac wo; intro ac wo h
   refine rd0 h (et uu317 rfl (h.row_sl 2 rfl)) rfl <| g0 (ak rfl) rfl <| gn hK35 <| gB ?_; clear h ac wo; intro ac wo h
   have hl2e : l2 = evA a ++ evB b := by rw [hle2, List.take_of_length_le (by omega)]
   replace h := h.nilRow (α := Iv) 86
   obtain ⟨X3, hX3⟩ : ∃ X, bR (fun s => cn a b l x32 l2 x322 s.1 s.2.1 s.2.2.1 s.2.2.2.1 s.2.2.2.2) (((an l2).length - 0) + 1) ([], false, 0, (⟨(⟨oQ, oQ, false⟩ : GR), false⟩ : Bd), (⟨0, 0⟩ : I2)) = X := ⟨_, rfl⟩
   refine wp_loop_ghost (fun n_ a_ w_ => ∃ (out : List Iv) (in_ : Bool) (x59 : Nat) (from_ : Bd) (n : I2) (outv : Value), (((an l2).length - x59) < n_) ∧ (bR (fun s => cn a b l x32 l2 x322 s.1 s.2.1 s.2.2.1 s.2.2.2.1 s.2.2.2.2) n_ (out, in_, x59, from_, n) = X3) ∧ (x59 ≤ (an l2).length) ∧ (All (SzV 30) out) ∧ (SzW 30 from_) ∧ (out.length ≤ x59) ∧ ((-(x59 : Int) ≤ n.n0 ∧ n.n0 ≤ (x59 : Int)) ∧ (-(x59 : Int) ≤ n.n1 ∧ n.n1 ≤ (x59 : Int))) ∧ St w0 127 [(2, (.func (.func 244) #[] #[])), (7, l2v), (14, outv), (15, (ptr b8 0)), (16, (ptr b9 0)), (17, (.bool in_)), (57, l2v), (58, (.int .i64 (((an l2).length : Nat) : Int))), (59, (.int .i64 ((x59 : Nat) : Int)))] [.row (α := Iv) 86 outv out, .blk b9 (cW from_) 206, .blk b8 (cJ n) 319, .row (α := Ev) 321 l2v (an l2), .blk b1 [av, bv] 103] a_ w_) (((an l2).length - 0) + 1) ⟨[], false, 0, (⟨(⟨oQ, oQ, false⟩ : GR), false⟩ : Bd), (⟨0, 0⟩ : I2), (.slice none 0 0), (by omega), hX3, (by first | omega | grind), All.nil, ⟨⟨(bY 0 (by decide) (by omega)), (bY 0 (by decide) (by omega))⟩, ⟨(bY 0 (by decide) (by omega)), (bY 0 (by decide) (by omega))⟩⟩, (by first | omega | grind), ⟨⟨by decide, by decide⟩, ⟨by decide, by decide⟩⟩, (h.sub ⟨rfl, rfl, rfl, rfl, rfl, rfl, rfl, rfl, rfl, trivial⟩)⟩ ?_
   clear h ac wo; rintro n3 ac wo ⟨out, in_, x59, from_, n, outv, hm3, hL3, hx59, zout, zfrom_, hol, hn, h⟩
   obtain ⟨m3, rfl⟩ : ∃ m, n3 = m + 1 := ⟨n3 - 1, by omega⟩
   have hslen : (an l2).length = l2.length := (jr l2).length_eq
   obtain ⟨⟨he1, he2⟩, ⟨he3, he4⟩⟩ := evb_gt hlb2 x59
   refine gz h <| gr fun K36 hK36 => g0 (d5 rfl rfl) rfl <| gn hK36 <| gq fun K37 hK37 => ?_; clear h ac wo; intro ac wo h
   refine dA h rfl (fun hc3 => ?_) (fun hc3 => ?_)
   ·skip
    have hd3 := of_decide_eq_true hc3
    refine gz h <| gS <| gx hK37 <| gq fun K38 hK38 => gB <| gr fun K39 hK39 => g0 (ak rfl) rfl ?_; clear h ac wo; intro ac wo h
    refine rd0 h (eC (i := x59) uu317 zz321 rfl rfl (h.row_nn 3 rfl (by omega)) (by omega)) rfl <| g1 3 rfl (dX (k := 0) aa321 zz321 (cK (by omega)) rfl (Nat.add_zero _) rfl rfl (v := (vE (gt (an l2) x59))) rfl) rfl <| ga (cE (⟨(⟨(⟨oQ, oQ, false⟩ : GR), false⟩ : Bd), 0, 0⟩ : Ev)) vv321 rfl rfl fun b10 => g0 (aj rfl) rfl <| gs 0 (cE (gt (an l2) x59)) rfl zz321 rfl rfl rfl rfl rfl rfl rfl <| gn hK39 <| gq fun K40 hK40 => ?_; clear h ac wo; intro ac wo h
    refine cZ mixed [dv _, dw _ [3], dv _, dv _, dw _ [0], dv _, dv _, dw _ [3], dv _, dv _, dw _ [0], dv _, dv _, dw _ [3], dv _, dw _ [3]] [⟨_, []⟩, ⟨_, []⟩, ⟨_, []⟩, ⟨.blk b8 (cJ n) 319, [(13, .con _), (15, .con _)]⟩, ⟨_, []⟩, ⟨_, []⟩] h rfl (by kernel_rfl) ⟨fun _ _ => aL (kA (i := 0) uu319 zz3 rfl rfl (by decide)), fun _ _ => cY _ rfl rfl (ba aa3 zz3 rfl rfl rfl (v := (.int .i64 n.n0)) rfl), fun _ _ => aL (fa uu321 rfl zz319 rfl rfl rfl (k' := 10)), fun _ _ => aL (kA (i := 0) uu319 zz3 rfl rfl (by decide)), fun _ _ => cY _ rfl rfl (ba aa3 zz3 rfl rfl rfl (v := (.int .i64 ((gt (an l2) x59).b0))) rfl), fun _ _ => aL (ch rfl rfl (r := (n.n0 + ((gt (an l2) x59).b0))) (by rw [wI]; omega)), fun _ _ => aL (kA (i := 1) uu319 zz3 rfl rfl (by decide)), fun _ _ => cY _ rfl rfl (ba aa3 zz3 rfl rfl rfl (v := (.int .i64 n.n1)) rfl), fun _ _ => aL (fa uu321 rfl zz319 rfl rfl rfl (k' := 10)), fun _ _ => aL (kA (i := 1) uu319 zz3 rfl rfl (by decide)), fun _ _ => cY _ rfl rfl (ba aa3 zz3 rfl rfl rfl (v := (.int .i64 ((gt (an l2) x59).b1))) rfl), fun _ _ => aL (ch rfl rfl (r := (n.n1 + ((gt (an l2) x59).b1))) (by rw [wI]; omega)), fun _ _ => aL (kA (i := 0) uu319 zz3 rfl rfl (by decide)), fun _ _ => gF _ [.blk b8 (cJ (⟨(n.n0 + ((gt (an l2) x59).b0)), n.n1⟩ : I2)) 319] rfl rfl (gW zz3 rfl rfl rfl rfl rfl rfl rfl), fun _ _ => aL (kA (i := 1) uu319 zz3 rfl rfl (by decide)), fun _ _ => gF _ [.blk b8 (cJ (⟨(n.n0 + ((gt (an l2) x59).b0)), (n.n1 + ((gt (an l2) x59).b1))⟩ : I2)) 319] rfl rfl (gW zz3 rfl rfl rfl rfl rfl rfl rfl), trivial⟩ ?_
    clear h ac wo; intro ξ ac wo hφ h
    replace h : St w0 127 [(2, (.func (.func 244) #[] #[])), (7, l2v), (14, outv), (15, (ptr b8 0)), (16, (ptr b9 0)), (17, (.bool in_)), (57, l2v), (58, (.int .i64 (((an l2).length : Nat) : Int))), (59, (.int .i64 ((x59 : Nat) : Int))), (19, (ptr b10 0)), (18, (.int .i64 ((x59 : Nat) : Int)))] [.blk b10 (cE (gt (an l2) x59)) 321, .row (α := Iv) 86 outv out, .blk b9 (cW from_) 206, .blk b8 (cJ (⟨(n.n0 + ((gt (an l2) x59).b0)), (n.n1 + ((gt (an l2) x59).b1))⟩ : I2)) 319, .row (α := Ev) 321 l2v (an l2), .blk b1 [av, bv] 103] ac wo := (h.pick [0, 1, 2, 3, 4, 5] (by decide)).sub ⟨rfl, rfl, rfl, rfl, rfl, rfl, rfl, rfl, rfl, rfl, rfl, trivial⟩
    clear hφ ξ
    refine hK40 _ _ ?_
    refine dV fun K41 hK41 => ?_
    refine dV fun K42 hK42 => ?_
    have s14 := Calls.pr ((fun w_ hB_ hS_ => dD ((gt (an l2) x59).at_) ((gt (an l2) (x59 + 1)).at_) (All.gt s11.2.1 (mC _)) (All.gt s11.2.1 (mC _)) w_ ) _ h.bel h.sep)
    have p15 := s14
    refine cZ mixed [dv _, dv _, dv _, dv _, dv _, dv _, dv _, dw _ [0], dv _, dv _, dv _, dv _, dv _, dw _ [4], dv _, dv _, dv _] [⟨_, []⟩, ⟨_, []⟩, ⟨_, []⟩, ⟨_, []⟩, ⟨_, []⟩, ⟨_, []⟩] h rfl (by kernel_rfl) ⟨fun _ _ => om rfl, fun _ _ => aL (ch rfl rfl (r := ((x59 + 1 : Nat) : Int)) (by rw [wI]; first | omega | grind)), fun _ _ => om rfl, fun _ _ => aL (et uu317 rfl (h.row_sl 4 rfl)), fun _ _ => aL (d5 rfl rfl), fun _ _ => om rfl, fun _ _ => oh rfl rfl rfl rfl (fun hg => fa uu321 rfl zz206 rfl rfl rfl (k' := 0)), fun _ _ => oh rfl rfl rfl rfl (fun hg => ba aa206 zz206 (aN rfl hg) rfl rfl (v := (vW ((gt (an l2) x59).at_))) rfl), fun _ _ => oh rfl rfl rfl rfl (fun hg => ak rfl), fun _ _ => oh rfl rfl rfl rfl (fun hg => ak rfl), fun _ _ => oh rfl rfl rfl rfl (fun hg => ch (aN rfl hg) rfl (r := ((x59 + 1 : Nat) : Int)) (by rw [wI]; first | omega | (simp at hg; omega) | grind)), fun _ _ => oh rfl rfl rfl rfl (fun hg => eC (i := (x59 + 1)) uu317 zz321 (aN rfl hg) (aN rfl hg) (h.row_nn 4 rfl (by first | omega | (simp at hg; omega) | grind)) (by first | omega | (simp at hg; omega) | grind)), fun _ _ => oh rfl rfl rfl rfl (fun hg => fs uu321 rfl zz206 rfl (h.row_nn 4 rfl (by first | omega | (simp at hg; omega) | grind)) (aN rfl hg) rfl (k' := (x59 + 1) * 12 + 0)), fun _ _ => oh rfl rfl rfl rfl (fun hg => dX (k := 0) aa206 zz206 (cK (by first | omega | (simp at hg; omega) | grind)) (aN rfl hg) rfl rfl rfl (v := (vW ((gt (an l2) (x59 + 1)).at_))) rfl), fun _ _ => og1 rfl rfl rfl rfl (fun hg => dy (bF Tryz.call135 (cH (aN rfl hg) (cH (aN rfl hg) rfl))) (kk (dD ((gt (an l2) x59).at_) ((gt (an l2) (x59 + 1)).at_) (All.gt s11.2.1 (mC _)) (All.gt s11.2.1 (mC _))))), fun _ _ => oh rfl rfl rfl rfl (fun hg => fV (aN rfl hg) rfl), fun _ _ => aL (fw rfl (fun e => (aN rfl e))), trivial⟩ ?_
    clear h ac wo; intro ξ ac wo hφ h
    replace h : St w0 127 [(2, (.func (.func 244) #[] #[])), (7, l2v), (14, outv), (15, (ptr b8 0)), (16, (ptr b9 0)), (17, (.bool in_)), (57, l2v), (58, (.int .i64 (((an l2).length : Nat) : Int))), (59, (.int .i64 ((x59 : Nat) : Int))), (19, (ptr b10 0)), (94, (.bool ((decide (((x59 + 1 : Nat) : Int) < (((an l2).length : Nat) : Int))) && ((aR ((gt (an l2) x59).at_) ((gt (an l2) (x59 + 1)).at_)) == 0))))] [.blk b10 (cE (gt (an l2) x59)) 321, .row (α := Iv) 86 outv out, .blk b9 (cW from_) 206, .blk b8 (cJ (⟨(n.n0 + ((gt (an l2) x59).b0)), (n.n1 + ((gt (an l2) x59).b1))⟩ : I2)) 319, .row (α := Ev) 321 l2v (an l2), .blk b1 [av, bv] 103] ac wo := (h.pick [0, 1, 2, 3, 4, 5] (by decide)).sub ⟨rfl, rfl, rfl, rfl, rfl, rfl, rfl, rfl, rfl, rfl, rfl, trivial⟩
    clear hφ ξ
    refine hK42 _ _ ?_
    refine dA h rfl (fun hc4 => ?_) (fun hc4 => ?_)
    ·skip
     have hq4 := hc4; try simp at hq4
     refine gz h <| gE <| gx hK38 <| gR <| g0 (ch rfl rfl (r := ((x59 + 1 : Nat) : Int)) (by rw [wI]; omega)) rfl <| g0 (ak rfl) rfl <| gx (fun _ _ => bV) ?_; clear h ac wo; intro ac wo h
     exact aU ⟨m3, (by omega), _, _, _, _, _, _, (by omega), co hL3 (show cn a b l x32 l2 x322 out in_ x59 from_ n = .go _ from (Eq.trans (cT hc3) (cT hc4))), (by omega), zout, zfrom_, (by omega), ⟨⟨by simp only; omega, by simp only; omega⟩, ⟨by simp only; omega, by simp only; omega⟩⟩, (h.pick [1, 2, 3, 4, 5] (by decide)).sub ⟨rfl, rfl, rfl, rfl, rfl, rfl, rfl, rfl, rfl, trivial⟩⟩
    ·skip
     have hq4 := hc4; try simp at hq4
     refine gz h <| gS <| gx hK41 <| gr fun K43 hK43 => g0 (ak rfl) rfl <| g0 (kA (i := 0) uu319 zz3 rfl rfl (by decide)) rfl <| g1 3 rfl (ba aa3 zz3 rfl rfl rfl (v := (.int .i64 (n.n0 + ((gt (an l2) x59).b0)))) rfl) rfl <| g0 (ko rfl rfl) rfl <| g0 (kA (i := 1) uu319 zz3 rfl rfl (by decide)) rfl <| g1 3 rfl (ba aa3 zz3 rfl rfl rfl (v := (.int .i64 (n.n1 + ((gt (an l2) x59).b1)))) rfl) rfl <| g0 (ko rfl rfl) rfl <| gc (nl (cap := []) Tryz.call244 rfl rfl) (kk (l7 (decide ((n.n0 + ((gt (an l2) x59).b0)) > 0)) (decide ((n.n1 + ((gt (an l2) x59).b1)) > 0)))) rfl <| g0 (aj rfl) rfl <| gn hK43 <| gq fun K44 hK44 => gB <| gr fun K45 hK45 => g0 (ak rfl) rfl <| g0 (ak rfl) rfl <| ge1 rfl rfl (fun hg => (Rd.of_nil (ak rfl)).step) rfl <| ge1 rfl rfl (fun hg => (Rd.of_nil (gG (aN rfl hg))).step) rfl <| g0 (fw rfl (fun e => (aN rfl e))) rfl <| g0 (aj rfl) rfl <| gn hK45 ?_; clear h ac wo; intro ac wo h
     refine dA h rfl (fun hc5 => ?_) (fun hc5 => ?_)
     ·skip
      have hq5 := hc5; try simp at hq5
      refine gz h <| gR <| g0 (fa uu321 rfl zz206 rfl rfl rfl (k' := 0)) rfl <| g1 0 rfl (ba aa206 zz206 rfl rfl rfl (v := (vW ((gt (an l2) x59).at_))) rfl) rfl <| gs 2 (cW ((gt (an l2) x59).at_)) rfl zz206 rfl rfl rfl rfl rfl rfl rfl <| gx (fun _ _ => bV) ?_; clear h ac wo; intro ac wo h
      replace h := h.sub (F' := [(2, (.func (.func 244) #[] #[])), (7, l2v), (14, outv), (15, (ptr b8 0)), (16, (ptr b9 0)), (57, l2v), (58, (.int .i64 (((an l2).length : Nat) : Int))), (59, (.int .i64 ((x59 : Nat) : Int))), (20, (.bool (bu (decide ((n.n0 + ((gt (an l2) x59).b0)) > 0)) (decide ((n.n1 + ((gt (an l2) x59).b1)) > 0)))))]) ⟨rfl, rfl, rfl, rfl, rfl, rfl, rfl, rfl, rfl, trivial⟩
      refine gz h <| gN <| gx hK44 <| gR <| g0 (ak rfl) rfl <| g0 (aj rfl) rfl <| gx (fun _ _ => bV) <| gN <| gx hK38 <| gR <| g0 (ch rfl rfl (r := ((x59 + 1 : Nat) : Int)) (by rw [wI]; omega)) rfl <| g0 (ak rfl) rfl <| gx (fun _ _ => bV) ?_; clear h ac wo; intro ac wo h
      exact aU ⟨m3, (by omega), _, _, _, _, _, _, (by omega), co hL3 (show cn a b l x32 l2 x322 out in_ x59 from_ n = .go _ from (Eq.trans (cT hc3) (Eq.trans (cF hc4) (cT hc5)))), (by omega), zout, (All.gt s11.2.1 (mC _)), (by omega), ⟨⟨by simp only; omega, by simp only; omega⟩, ⟨by simp only; omega, by simp only; omega⟩⟩, (h.pick [1, 2, 3, 4, 5] (by decide)).sub ⟨rfl, rfl, rfl, rfl, rfl, rfl, rfl, rfl, rfl, trivial⟩⟩
     ·skip
      have hq5 := hc5; try simp at hq5
      refine gz h <| gr fun K46 hK46 => g0 (ak rfl) rfl <| g0 (gG rfl) rfl <| g0 (ak rfl) rfl <| ge1 rfl rfl (fun hg => (Rd.of_nil (ak rfl)).step) rfl <| g0 (fw rfl (fun e => (aN rfl e))) rfl <| g0 (aj rfl) rfl <| gn hK46 ?_; clear h ac wo; intro ac wo h
      replace h := h.sub (F' := [(2, (.func (.func 244) #[] #[])), (7, l2v), (14, outv), (15, (ptr b8 0)), (16, (ptr b9 0)), (57, l2v), (58, (.int .i64 (((an l2).length : Nat) : Int))), (59, (.int .i64 ((x59 : Nat) : Int))), (19, (ptr b10 0)), (20, (.bool (bu (decide ((n.n0 + ((gt (an l2) x59).b0)) > 0)) (decide ((n.n1 + ((gt (an l2) x59).b1)) > 0))))), (111, (.bool ((!(bu (decide ((n.n0 + ((gt (an l2) x59).b0)) > 0)) (decide ((n.n1 + ((gt (an l2) x59).b1)) > 0)))) && in_)))]) ⟨rfl, rfl, rfl, rfl, rfl, rfl, rfl, rfl, rfl, rfl, rfl, trivial⟩
      refine dA h rfl (fun hc6 => ?_) (fun hc6 => ?_)
      ·skip
       have hq6 := hc6; try simp at hq6
       have c16 := l6 from_ ((gt (an l2) x59).at_) zfrom_ (All.gt s11.2.1 (mC _))
       have s16 := Calls.pr (c16 w0)
       refine gz h <| gR <| g0 (ak rfl) rfl <| g1 2 rfl (ba aa206 zz206 rfl rfl rfl (v := (vW from_)) rfl) rfl <| g0 (fa uu321 rfl zz206 rfl rfl rfl (k' := 0)) rfl <| g1 0 rfl (ba aa206 zz206 rfl rfl rfl (v := (vW ((gt (an l2) x59).at_))) rfl) rfl <| gc (bF Tryz.call247 rfl) (kk c16) rfl ?_; clear h ac wo; intro ac wo h
       refine nw h (dq (α := Iv) (xs := [.tmp 121]) (vs := [(vV (cc from_ ((gt (an l2) x59).at_)))]) [(cc from_ ((gt (an l2) x59).at_))] pB rfl rfl rfl (by decide)) rfl ?_; clear h ac wo; intro sv17 ac wo nnsv17 h
       refine on2 h 2 0 rfl rfl (fl (xs := out) (ys := [(cc from_ ((gt (an l2) x59).at_))]) pB (fun w hs => (row_view hs 0 rfl)) rfl rfl (by first | omega | grind)) rfl ?_; clear h ac wo; intro sv18 ac wo apsv18 h
       refine rd0 h (aj rfl) rfl <| gx (fun _ _ => bV) <| gN <| gx hK44 <| gR <| g0 (ak rfl) rfl <| g0 (aj rfl) rfl <| gx (fun _ _ => bV) <| gN <| gx hK38 <| gR <| g0 (ch rfl rfl (r := ((x59 + 1 : Nat) : Int)) (by rw [wI]; omega)) rfl <| g0 (ak rfl) rfl <| gx (fun _ _ => bV) ?_; clear h ac wo; intro ac wo h
       exact aU ⟨m3, (by omega), _, _, _, _, _, _, (by first | omega | grind), co hL3 (show cn a b l x32 l2 x322 out in_ x59 from_ n = .go _ from (Eq.trans (cT hc3) (Eq.trans (cF hc4) (Eq.trans (cF hc5) (cT hc6))))), (by first | omega | grind), (All.app zout (All.cons s16 All.nil)), zfrom_, (by first | omega | grind), ⟨⟨by simp only; omega, by simp only; omega⟩, ⟨by simp only; omega, by simp only; omega⟩⟩, (h.pick [0, 3, 4, 5, 6] (by decide)).sub ⟨rfl, rfl, rfl, rfl, rfl, rfl, rfl, rfl, rfl, trivial⟩⟩
      ·skip
       have hq6 := hc6; try simp at hq6
       refine gz h <| gS <| gN <| gx hK44 <| gR <| g0 (ak rfl) rfl <| g0 (aj rfl) rfl <| gx (fun _ _ => bV) <| gN <| gx hK38 <| gR <| g0 (ch rfl rfl (r := ((x59 + 1 : Nat) : Int)) (by rw [wI]; omega)) rfl <| g0 (ak rfl) rfl <| gx (fun _ _ => bV) ?_; clear h ac wo; intro ac wo h
       exact aU ⟨m3, (by omega), _, _, _, _, _, _, (by omega), co hL3 (show cn a b l x32 l2 x322 out in_ x59 from_ n = .go _ from (Eq.trans (cT hc3) (Eq.trans (cF hc4) (Eq.trans (cF hc5) (cF hc6))))), (by omega), zout, zfrom_, (by omega), ⟨⟨by simp only; omega, by simp only; omega⟩, ⟨by simp only; omega, by simp only; omega⟩⟩, (h.pick [1, 2, 3, 4, 5] (by decide)).sub ⟨rfl, rfl, rfl, rfl, rfl, rfl, rfl, rfl, rfl, trivial⟩⟩
   ·skip
    have hd3 := of_decide_eq_false hc3
    refine ep ?_
    have hx3 := dU hL3 (show cn a b l x32 l2 x322 out in_ x59 from_ n = .out (out, in_, x59, from_, n) from (cF hc3))
    refine gz h <| gx hK34 <| gr fun K47 hK47 => g0 (ak rfl) rfl <| g0 (aj rfl) rfl <| gn hK47 <| gT ?_; clear h ac wo; intro ac wo h
    have hd : eS a b = out := (Eq.trans (eV (hX1.trans hx1)) (Eq.trans (eV (hX2.trans hx2)) (eV (hX3.trans hx3))))
    exact ret h rfl (.tmp rfl .nil) rfl (by rw [hd]; exact h.retR 0 rfl ⟨zout, (by omega)⟩)
attribute [irreducible] eS
def fj (a : List Iv) (b : List Iv) : (List Iv) :=
 (eS a b)
theorem kE (a : List Iv) (av : Value) (b : List Iv) (bv : Value) (hla : a.length ≤ 200) (hlb : b.length ≤ 200) (hwa : ∀ i ∈ a, Wv i) (hwb : ∀ i ∈ b, Wv i) (za : All (SzV 30) a) (zb : All (SzV 30) b) (w0 : World) (hav : View w0 av a) (hbv : View w0 bv b) : Calls Tryz.prog 178 #[av, bv] w0 (RetR w0 86 (fj a b) (All (SzV 30) (fj a b) ∧ (fj a b).length ≤ 2 * a.length + 2 * b.length)) := by
 refine enter (N := 8) (args := [av, bv]) Tryz.func178 rfl rfl ?_; intro ac h
 have hlena := hav.len
 have hlenb := hbv.len
 refine ej fun K1 hK1 => ?_
 refine rd0 h (aj rfl) rfl <| gn hK1 <| gr fun K2 hK2 => g0 (ak rfl) rfl <| g0 (ak rfl) rfl ?_; clear h ac; intro ac wo h
 have s1 := RetR.pr ((fun w_ hB_ hS_ => jP a av b bv (by omega) (by omega) (by omega) (by omega) za zb w_ (hav.below hB_) (hbv.below hB_)) _ h.bel h.sep)
 have p2 := s1.2
 refine me (xs := (eS a b)) h (bF Tryz.call180 rfl) (fun w_ hB_ hS_ => jP a av b bv (by omega) (by omega) (by omega) (by omega) za zb w_ (hav.below hB_) (hbv.below hB_)) rfl ?_; clear h ac wo; intro sv3 ac wo _ h
 refine rd0 h (aj rfl) rfl <| gn hK2 <| gT ?_; clear h ac wo; intro ac wo h
 exact ret h rfl (.tmp rfl .nil) rfl (by unfold fj; exact h.retR 0 rfl ⟨s1.1, (by omega)⟩)
attribute [irreducible] fj
def eT (l : List Iv) : (List Iv) :=
 (fj l ([]))
theorem kg (l : List Iv) (lv : Value) (hl : l.length ≤ 200) (hw : ∀ i ∈ l, Wv i) (zl : All (SzV 30) l) (w0 : World) (hlv : View w0 lv l) : Calls Tryz.prog 77 #[lv] w0 (RetR w0 86 (eT l) (All (SzV 30) (eT l) ∧ (eT l).length ≤ 2 * l.length)) := by
 refine enter (N := 5) (args := [lv]) Tryz.func77 rfl rfl ?_; intro ac h
 have hlenl := hlv.len
 refine ej fun K1 hK1 => ?_
 refine rd0 h (aj rfl) rfl <| gn hK1 <| gr fun K2 hK2 => g0 (ak rfl) rfl ?_; clear h ac; intro ac wo h
 have s1 := RetR.pr ((fun w_ hB_ hS_ => kE l lv ([]) (.slice none 0 0) (by omega) (by simp) (by omega) (fun _ h => by cases h) zl All.nil w_ (hlv.below hB_) View.nilv) _ h.bel h.sep)
 have p2 := s1.2
 refine me (xs := (fj l ([]))) h (bF Tryz.call178 rfl) (fun w_ hB_ hS_ => kE l lv ([]) (.slice none 0 0) (by omega) (by simp) (by omega) (fun _ h => by cases h) zl All.nil w_ (hlv.below hB_) View.nilv) rfl ?_; clear h ac wo; intro sv3 ac wo _ h
 refine rd0 h (aj rfl) rfl <| gn hK2 <| gT ?_; clear h ac wo; intro ac wo h
 exact ret h rfl (.tmp rfl .nil) rfl (by unfold eT; exact h.retR 0 rfl ⟨s1.1, (by omega)⟩)
attribute [irreducible] eT
end Go.Sx
namespace Go.Sx
set_option maxRecDepth 100000
theorem mj (a b : List Iv) (l : List Ev) (x32 : Nat) (l2 : List Ev) (x322 : Nat) : ∀ (s p : List Ev) (out : List Iv) (in_ : Bool) (fr : Bd) (n : I2) (k : Nat), an l2 = p ++ s → s.length < k →
 ∃ st, bR (fun s => cn a b l x32 l2 x322 s.1 s.2.1 s.2.2.1 s.2.2.2.1 s.2.2.2.2) k (out, in_, p.length, fr, n) = .inl st ∧ st.1 = swS bu s out in_ fr n.n0 n.n1
 | [], p, out, in_, fr, n, k + 1, hs, _ => by
  refine ⟨(out, in_, p.length, fr, n), fR k ?_, rfl⟩
  show cn a b l x32 l2 x322 out in_ p.length fr n = _
  unfold cn
  rw [hs, List.append_nil, decide_eq_false (by omega : ¬ ((p.length : Nat) : Int) < ((p.length : Nat) : Int))]; rfl
 | e :: r, p, out, in_, fr, n, k + 1, hs, hk => by
  have hl : (an l2).length = p.length + 1 + r.length := by rw [hs]; simp; omega
  have hg : gt (an l2) p.length = e := by rw [hs]; exact mB rfl
  have hs2 : an l2 = (p ++ [e]) ++ r := by rw [hs]; simp
  have hpl : (p ++ [e]).length = p.length + 1 := by simp
  have hk2 : r.length < k := by simp at hk; omega
  have hnx : ((decide (((p.length + 1 : Nat) : Int) < (((an l2).length : Nat) : Int))) && ((aR e.at_ ((gt (an l2) (p.length + 1)).at_)) == 0)) = nxe e r := by
   cases r with
   | nil =>
    simp only [List.length_nil] at hl
    rw [decide_eq_false (by omega : ¬ ((p.length + 1 : Nat) : Int) < (((an l2).length : Nat) : Int))]; rfl
   | cons e2 r =>
    have : gt (an l2) (p.length + 1) = e2 := by rw [hs2]; exact mB (by simp)
    rw [this, decide_eq_true (by simp at hl; omega : ((p.length + 1 : Nat) : Int) < (((an l2).length : Nat) : Int))]; rfl
  have ih := fun o i f (m : I2) => mj a b l x32 l2 x322 r (p ++ [e]) o i f m k hs2 hk2
  rw [hpl] at ih
  have hb : cn a b l x32 l2 x322 out in_ p.length fr n = bif (nxe e r) then .go (out, in_, (p.length + 1), fr, (⟨n.n0 + e.b0, n.n1 + e.b1⟩ : I2))
   else bif ((bu (decide (n.n0 + e.b0 > 0)) (decide (n.n1 + e.b1 > 0))) && !in_) then .go (out, (bu (decide (n.n0 + e.b0 > 0)) (decide (n.n1 + e.b1 > 0))), (p.length + 1), e.at_, (⟨n.n0 + e.b0, n.n1 + e.b1⟩ : I2))
   else bif ((!(bu (decide (n.n0 + e.b0 > 0)) (decide (n.n1 + e.b1 > 0)))) && in_) then .go (out ++ [cc fr e.at_], (bu (decide (n.n0 + e.b0 > 0)) (decide (n.n1 + e.b1 > 0))), (p.length + 1), fr, (⟨n.n0 + e.b0, n.n1 + e.b1⟩ : I2))
   else .go (out, (bu (decide (n.n0 + e.b0 > 0)) (decide (n.n1 + e.b1 > 0))), (p.length + 1), fr, (⟨n.n0 + e.b0, n.n1 + e.b1⟩ : I2)) := by
   unfold cn
   rw [hg, decide_eq_true (by omega : ((p.length : Nat) : Int) < (((an l2).length : Nat) : Int)), cond_true]
   exact congrArg (fun c => bif c then _ else _) hnx
  have go : ∀ {st' : List Iv × Bool × Nat × Bd × I2} {R : List Iv}, cn a b l x32 l2 x322 out in_ p.length fr n = .go st' → (∃ st, bR (fun s => cn a b l x32 l2 x322 s.1 s.2.1 s.2.2.1 s.2.2.2.1 s.2.2.2.2) k st' = .inl st ∧ st.1 = R) → ∃ st, bR (fun s => cn a b l x32 l2 x322 s.1 s.2.1 s.2.2.1 s.2.2.2.1 s.2.2.2.2) (k + 1) (out, in_, p.length, fr, n) = .inl st ∧ st.1 = R := fun h1 ⟨st, h2, h3⟩ => ⟨st, by rw [fE k (show (fun s : List Iv × Bool × Nat × Bd × I2 => cn a b l x32 l2 x322 s.1 s.2.1 s.2.2.1 s.2.2.2.1 s.2.2.2.2) (out, in_, p.length, fr, n) = _ from h1)]; exact h2, h3⟩
  rw [show swS bu (e :: r) out in_ fr n.n0 n.n1 = bif (nxe e r) then swS bu r out in_ fr (n.n0 + e.b0) (n.n1 + e.b1)
   else bif (bu (decide (n.n0 + e.b0 > 0)) (decide (n.n1 + e.b1 > 0))) && !in_ then swS bu r out (bu (decide (n.n0 + e.b0 > 0)) (decide (n.n1 + e.b1 > 0))) e.at_ (n.n0 + e.b0) (n.n1 + e.b1)
   else bif (!(bu (decide (n.n0 + e.b0 > 0)) (decide (n.n1 + e.b1 > 0)))) && in_ then swS bu r (out ++ [cc fr e.at_]) (bu (decide (n.n0 + e.b0 > 0)) (decide (n.n1 + e.b1 > 0))) fr (n.n0 + e.b0) (n.n1 + e.b1)
   else swS bu r out (bu (decide (n.n0 + e.b0 > 0)) (decide (n.n1 + e.b1 > 0))) fr (n.n0 + e.b0) (n.n1 + e.b1) from rfl]
  revert hb
  generalize nxe e r = c1
  generalize bu (decide (n.n0 + e.b0 > 0)) (decide (n.n1 + e.b1 > 0)) = c2
  intro hb
  cases c1
  ·cases c2 <;> cases in_
   ·exact go hb (ih _ _ _ _)
   ·exact go hb (ih _ _ _ _)
   ·exact go hb (ih _ _ _ _)
   ·exact go hb (ih _ _ _ _)
  ·exact go hb (ih _ _ _ _)
theorem rJ (a b : List Iv) : ∃ fr, eS a b = swS bu (an (evA a ++ evB b)) [] false fr 0 0 := by
 have h1 := jR (R := List Iv) (f := fun (o : List Ev) (u : Iv) => o ++ [(⟨ay u, 1, 0⟩ : Ev), (⟨aI u, (-1), 0⟩ : Ev)]) a (B := fun s => dO a b s.1 s.2) (fun o i hi => by
  show dO a b o i = _
  unfold dO
  rw [decide_eq_true (by omega : ((i : Nat) : Int) < ((a.length : Nat) : Int))]; rfl) (fun o => by
  show dO a b o a.length = _
  unfold dO
  rw [decide_eq_false (by omega : ¬ ((a.length : Nat) : Int) < ((a.length : Nat) : Int))]; rfl) a [] [] (a.length - 0 + 1) rfl (by omega)
 rw [jQ] at h1
 have h2 := jR (R := List Iv) (f := fun (o : List Ev) (u : Iv) => o ++ [(⟨ay u, 0, 1⟩ : Ev), (⟨aI u, 0, (-1)⟩ : Ev)]) b (B := fun s => dN a b (evA a) a.length s.1 s.2) (fun o i hi => by
  show dN a b (evA a) a.length o i = _
  unfold dN
  rw [decide_eq_true (by omega : ((i : Nat) : Int) < ((b.length : Nat) : Int))]; rfl) (fun o => by
  show dN a b (evA a) a.length o b.length = _
  unfold dN
  rw [decide_eq_false (by omega : ¬ ((b.length : Nat) : Int) < ((b.length : Nat) : Int))]; rfl) b [] (evA a) (b.length - 0 + 1) rfl (by omega)
 rw [jQ] at h2
 refine ⟨(⟨(⟨(⟨(⟨false, 0⟩ : GI), (⟨false, 0⟩ : GI)⟩ : GQ), (⟨(⟨false, 0⟩ : GI), (⟨false, 0⟩ : GI)⟩ : GQ), false⟩ : GR), false⟩ : Bd), ?_⟩
 obtain ⟨st, h3, h4⟩ := mj a b (evA a) a.length (evA a ++ evB b) b.length (an (evA a ++ evB b)) [] [] false (⟨(⟨(⟨(⟨false, 0⟩ : GI), (⟨false, 0⟩ : GI)⟩ : GQ), (⟨(⟨false, 0⟩ : GI), (⟨false, 0⟩ : GI)⟩ : GQ), false⟩ : GR), false⟩ : Bd) ⟨0, 0⟩ ((an (evA a ++ evB b)).length - 0 + 1) rfl (by omega)
 rw [← h4]
 unfold eS
 refine (eV h1).trans ?_
 show iF a b (evA a) a.length = _
 unfold iF
 refine (eV h2).trans ?_
 show iE a b (evA a) a.length (evA a ++ evB b) b.length = _
 unfold iE
 refine (eV h3).trans ?_
 rfl
theorem keep_U : ∀ x y, bu x y = (x || y) := fun x y => by unfold bu; rfl
section
variable {a b : List Iv}
theorem sk (ha : ∀ i ∈ a, Wv i) (hb : ∀ i ∈ b, Wv i) : Cn (fj a b) ∧ ∀ x, inP (fj a b) x ↔ inP a x ∨ inP b x := by
 classical
 obtain ⟨fr, e⟩ := rJ a b
 obtain ⟨h1, h2⟩ := sC (l := evA a ++ evB b) (ev_tm ha hb)
 obtain ⟨h3, h4⟩ := sx (keep := bu) (by rw [keep_U]; rfl) ha hb h1 h2 fr
 unfold fj
 rw [e]
 refine ⟨h3, fun x => (h4 x).trans ?_⟩
 rw [keep_U, Bool.or_eq_true, decide_eq_true_eq, decide_eq_true_eq]
theorem rT (ha : ∀ i ∈ a, Wv i) : Cn (eT a) ∧ ∀ x, inP (eT a) x ↔ inP a x := by
 unfold eT
 obtain ⟨h1, h2⟩ := sk ha (b := []) (fun _ h => by cases h)
 exact ⟨h1, fun x => (h2 x).trans ⟨fun h => h.resolve_right (j9 x), .inl⟩⟩
theorem Cn.empty (h : Cn a) : a.length = 0 ↔ ∀ x, ¬ inP a x := by
 constructor
 ·intro h x hx
  rw [List.length_eq_zero_iff.1 h] at hx
  exact j9 x hx
 ·intro hx
  rw [Cn.ext h Cn.nil fun x => ⟨fun h => absurd h (hx x), fun h => absurd h (j9 x)⟩]; rfl
theorem wv_sz (h : ∀ i ∈ a, Wv i) : All (SzV 30) a := fun i hi => ⟨dg (nH (h i hi).1.1) (by omega), dg (nH (h i hi).1.2) (by omega)⟩
theorem Cn.sz (h : Cn a) : All (SzV 30) a := wv_sz h.wv
end
end Go.Sx
