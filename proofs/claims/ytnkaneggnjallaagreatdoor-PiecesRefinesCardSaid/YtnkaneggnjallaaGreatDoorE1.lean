/- A part of the proof that the law PiecesRefines answers true at every input and leaves its arguments as they were. -/
import Derived.Test.YtnkaneggnjallaaGreatDoorProg
import Derived.Test.YtnkaneggnjallaaGreatDoorA7
import Derived.Test.YtnkaneggnjallaaGreatDoorX
import Derived.Test.YtnkaneggnjallaaGreatDoorY
import Derived.Laws.Concat
import Derived.Test.YtnkaneggnjallaaGreatDoorM2
set_option linter.unusedVariables false
set_option linter.unusedSimpArgs false
open Go.Proofs.Tryz renaming sizeOf55 → zz55, runUnderlying244 → uu244, sizeOf203 → zz203, runUnderlying203 → uu203, sizeOf53 → zz53, sizeOf4 → zz4, isAgg4 → aa4, runUnderlying240 → uu240, sizeOf244 → zz244, isAgg244 → aa244
namespace Go.Sx
open Go Go.RowKit Go.Proofs
set_option maxRecDepth 100000
set_option maxHeartbeats 40000000
attribute [local irreducible] ao bU aj az bE aP aE aA dG cj aQ
theorem bld104 : BuildF Tryz.prog 104 [.bool false, .string ⟨#[]⟩, .bool false, .string ⟨#[]⟩, .bool false, .string ⟨#[]⟩, .bool false, .string ⟨#[]⟩, .bool false, .bool false, .string ⟨#[]⟩, .bool false, .string ⟨#[]⟩, .bool false, .string ⟨#[]⟩, .bool false, .string ⟨#[]⟩, .bool false, .bool false, .bool false, .bool false, .string ⟨#[]⟩, .bool false, .string ⟨#[]⟩, .bool false, .string ⟨#[]⟩, .bool false, .string ⟨#[]⟩, .bool false, .string ⟨#[]⟩, .bool false, .string ⟨#[]⟩, .int .i64 0] [(0, 20), (20, 12), (32, 1)] := BuildF.of Tryz.zeroValue104 rfl Tryz.runUnderlying104 (by intro w; simp [Tryz.sizeOf3, zz55, Tryz.sizeOf69])
theorem oR : BuildF Tryz.prog 244 [.bool false, .string ⟨#[]⟩, .bool false, .string ⟨#[]⟩, .bool false, .string ⟨#[]⟩, .bool false, .string ⟨#[]⟩, .bool false, .bool false, .int .i64 0, .int .i64 0] [(0, 10), (10, 2)] := BuildF.of Tryz.zeroValue244 rfl uu244 (by intro w; simp [zz203, Tryz.sizeOf242])
def cY (a : Bd) (b : Bd) : Iv :=
 (⟨a.at_, b.at_, a.behind, (!b.behind)⟩ : Iv)
theorem ko (a : Bd) (b : Bd) (za : SzW 30 a) (zb : SzW 30 b) (w0 : World)  : Calls Tryz.prog 178 #[(vW a), (vW b)] w0 (eE w0 (vV (cY a b)) (SzV 30 (cY a b))) := by
 refine enter (N := 15) (args := [(vW a), (vW b)]) Tryz.func178 rfl rfl ?_; intro ac h
 refine d8 fun K1 hK1 => ?_
 refine bx h (cW a) rfl rfl rfl fun b1 => gb (cW b) rfl rfl rfl fun b2 => ga (cV (⟨(⟨oQ, oQ, false⟩ : GR), (⟨oQ, oQ, false⟩ : GR), false, false⟩ : Iv)) Tryz.zeroValue55 rfl rfl fun b3 => gn hK1 <| gr fun K2 hK2 => g0 (fa uu203 rfl zz53 rfl rfl rfl (k' := 0)) rfl <| g1 2 rfl (aS Tryz.isAgg53 zz53 rfl rfl rfl (v := (vR a.at_)) rfl) rfl <| g0 (fa uu203 rfl zz53 rfl rfl rfl (k' := 0)) rfl <| g1 1 rfl (aS Tryz.isAgg53 zz53 rfl rfl rfl (v := (vR b.at_)) rfl) rfl <| g0 (fa uu203 rfl zz4 rfl rfl rfl (k' := 9)) rfl <| g1 2 rfl (aS aa4 zz4 rfl rfl rfl (v := (.bool a.behind)) rfl) rfl <| g0 (fa uu203 rfl zz4 rfl rfl rfl (k' := 9)) rfl <| g1 1 rfl (aS aa4 zz4 rfl rfl rfl (v := (.bool b.behind)) rfl) rfl <| g0 (dV rfl) rfl <| g0 (bG kx rfl rfl (v := (vV (⟨a.at_, b.at_, a.behind, (!b.behind)⟩ : Iv))) rfl) rfl <| gs 0 (cV (⟨a.at_, b.at_, a.behind, (!b.behind)⟩ : Iv)) rfl zz55 rfl rfl rfl rfl rfl rfl rfl <| gn hK2 <| gT ?_; clear h ac; intro ac wo h
 exact ret h rfl (.cell (v := (vV (⟨a.at_, b.at_, a.behind, (!b.behind)⟩ : Iv))) rfl (i := 0) rfl Tryz.isAgg55 zz55 rfl rfl rfl .nil) rfl (h.retP (by unfold cY; rfl) (by unfold cY; exact ⟨za, zb⟩))
attribute [irreducible] cY
def ce (x : Ev) (y : Ev) : Int :=
 (cK x.at_ y.at_)
theorem iC (x : Ev) (y : Ev) (zx : SzE 30 x) (zy : SzE 30 y) (w0 : World)  : Calls Tryz.prog 177 #[(vE x), (vE y)] w0 (eE w0 (.int .i64 (ce x y)) ((-1 ≤ (ce x y) ∧ (ce x y) ≤ 1))) := by
 refine enter (N := 10) (args := [(vE x), (vE y)]) Tryz.func177 rfl rfl ?_; intro ac h
 have c1 := gf x.at_ y.at_ zx zy
 have s1 := Calls.pr (c1 w0)
 have p2 := s1
 refine d8 fun K1 hK1 => ?_
 refine bx h (cE x) rfl rfl rfl fun b1 => gb (cE y) rfl rfl rfl fun b2 => g0 (ae rfl) rfl <| gn hK1 <| gr fun K2 hK2 => g0 (fa uu244 rfl zz203 rfl rfl rfl (k' := 0)) rfl <| g1 1 rfl (aS Tryz.isAgg203 zz203 rfl rfl rfl (v := (vW x.at_)) rfl) rfl <| g0 (fa uu244 rfl zz203 rfl rfl rfl (k' := 0)) rfl <| g1 0 rfl (aS Tryz.isAgg203 zz203 rfl rfl rfl (v := (vW y.at_)) rfl) rfl <| gc (c8 Tryz.call134 rfl) (kk c1) rfl <| g0 (ae rfl) rfl <| gn hK2 <| gT ?_; clear h ac; intro ac wo h
 exact ret h rfl (.tmp rfl .nil) rfl (h.retP (by unfold ce; rfl) (by unfold ce; exact (by first | omega | grind)))
attribute [irreducible] ce
def aR (a : Bool) (b : Bool) : Bool :=
 (a && b)
theorem ja (a : Bool) (b : Bool) (w0 : World)  : Calls Tryz.prog 122 #[(.bool a), (.bool b)] w0 (eE w0 (.bool (aR a b)) (True)) := by
 refine enter (N := 9) (args := [(.bool a), (.bool b)]) Tryz.func122 rfl rfl ?_; intro ac h
 refine d8 fun K1 hK1 => ?_
 refine rd0 h (ae rfl) rfl <| gn hK1 <| gr fun K2 hK2 => g0 (af rfl) rfl <| g0 (af rfl) rfl <| ge1 rfl rfl (fun hg => (Rd.of_nil (af rfl)).step) rfl <| g0 (de rfl (fun e => (an rfl e))) rfl <| g0 (ae rfl) rfl <| gn hK2 <| gT ?_; clear h ac; intro ac wo h
 exact ret h rfl (.tmp rfl .nil) rfl (h.retP (by unfold aR; rfl) trivial)
attribute [irreducible] aR
def fB (data : List Ev) (a : Nat) (b : Nat) (i : Nat) (data1 : List Ev) : List Ev :=
 data1
def fA (data : List Ev) (a : Nat) (b : Nat) (i : Nat) (data1 : List Ev) (j : Nat) (data2 : List Ev) : Nx (Nat × (List Ev)) (List Ev) :=
 .go ((i + 1), data2)
def cu (data : List Ev) (a : Nat) (b : Nat) (i : Nat) (data1 : List Ev) (j : Nat) (data2 : List Ev) : Nx (Nat × (List Ev)) (List Ev) :=
 bif ((decide (((j : Nat) : Int) > ((a : Nat) : Int))) && (decide ((ce (gt data2 j) (gt data2 (j - 1))) < 0))) then
  .go ((j - 1), ((data2.set j (gt data2 (j - 1))).set (j - 1) (gt data2 j)))
 else
  .out (j, data2)
def cv (data : List Ev) (a : Nat) (b : Nat) (i : Nat) (data1 : List Ev) : Nx (Nat × (List Ev)) (List Ev) :=
 bif (decide (((i : Nat) : Int) < ((b : Nat) : Int))) then
  fin (bQ (fun s => cu data a b i data1 s.1 s.2) (i + 1) (i, data1)) (fun s => fA data a b i data1 s.1 s.2) (fun r => .ret r)
 else
  .out (i, data1)
def bj (data : List Ev) (a : Nat) (b : Nat) : List Ev :=
 fin (bQ (fun s => cv data a b s.1 s.2) ((b + 1 - (a + 1)) + 1) ((a + 1), data)) (fun s => fB data a b s.1 s.2) (fun r => r)
theorem fz (data : List Ev) (datav : Value) (a : Nat) (b : Nat) (hab : a ≤ b) (hb : b ≤ data.length) (hb2 : b ≤ 1000) (zdata : All (SzE 30) data) (w0 w : World) (B : Asn) (hbel : Below w0.heap.size w0 w) (hsep : ∃ Z_, Sep w0.heap.size w [.row (α := Ev) 244 datav data, B] Z_)  : Calls Tryz.prog 225 #[datav, (.int .i64 ((a : Nat) : Int)), (.int .i64 ((b : Nat) : Int)), (.func (.func 177) #[] #[])] w (RetY w0 (fun v => v = .tuple #[] ∧ (All (SzE 30) (bj data a b) ∧ (bj data a b).length = data.length)) (fun v => [.row (α := Ev) 244 datav (bj data a b), B])) := by
 refine jA (N := 53) (args := [datav, (.int .i64 ((a : Nat) : Int)), (.int .i64 ((b : Nat) : Int)), (.func (.func 177) #[] #[])]) Tryz.func225 rfl rfl hbel hsep ?_; intro ac h
 have hlendata := h.len 0 rfl
 refine d8 fun K1 hK1 => ?_
 refine rd0 h (af rfl) rfl <| g0 (bt rfl rfl (r := ((a + 1 : Nat) : Int)) (by rw [IntKind.wrap_i64]; first | omega | grind)) rfl <| g0 (ae rfl) rfl <| gn hK1 <| gB ?_; clear h ac; intro ac wo h
 obtain ⟨X1, hX1⟩ : ∃ X, bQ (fun s => cv data a b s.1 s.2) ((b + 1 - (a + 1)) + 1) ((a + 1), data) = X := ⟨_, rfl⟩
 refine wp_loop_ghost (fun n_ a_ w_ => ∃ (i : Nat) (data1 : List Ev), ((b + 1 - i) < n_) ∧ (bQ (fun s => cv data a b s.1 s.2) n_ (i, data1) = X1) ∧ (i ≤ b + 1) ∧ (All (SzE 30) data1) ∧ (data1.length = data.length) ∧ St w0 53 [(0, datav), (1, (.int .i64 ((a : Nat) : Int))), (2, (.int .i64 ((b : Nat) : Int))), (3, (.func (.func 177) #[] #[])), (8, (.int .i64 ((i : Nat) : Int)))] [.row (α := Ev) 244 datav data1, B] a_ w_) ((b + 1 - (a + 1)) + 1) ⟨(a + 1), data, (by omega), hX1, (by first | omega | grind), zdata, (by first | omega | grind), (h.sub ⟨rfl, rfl, rfl, rfl, rfl, trivial⟩)⟩ ?_
 clear h ac wo; rintro n1 ac wo ⟨i, data1, hm1, hL1, hi, zdata1, hdl, h⟩
 obtain ⟨m1, rfl⟩ : ∃ m, n1 = m + 1 := ⟨n1 - 1, by omega⟩
 refine gz h <| gq fun K2 hK2 => gr fun K3 hK3 => g0 (af rfl) rfl <| g0 (af rfl) rfl <| g0 (dk rfl rfl) rfl <| gn hK3 ?_; clear h ac wo; intro ac wo h
 refine dg h rfl (fun hc1 => ?_) (fun hc1 => ?_)
 ·
  have hd1 := of_decide_eq_true hc1
  refine gz h <| gS <| gx hK2 <| gq fun K4 hK4 => gB <| gr fun K5 hK5 => g0 (af rfl) rfl <| g0 (ae rfl) rfl <| gn hK5 <| gB ?_; clear h ac wo; intro ac wo h
  obtain ⟨X2, hX2⟩ : ∃ X, bQ (fun s => cu data a b i data1 s.1 s.2) (i + 1) (i, data1) = X := ⟨_, rfl⟩
  refine wp_loop_ghost (fun n_ a_ w_ => ∃ (j : Nat) (data2 : List Ev), (j < n_) ∧ (bQ (fun s => cu data a b i data1 s.1 s.2) n_ (j, data2) = X2) ∧ (All (SzE 30) data2) ∧ (j ≤ i) ∧ (data2.length = data.length) ∧ St w0 53 [(0, datav), (1, (.int .i64 ((a : Nat) : Int))), (2, (.int .i64 ((b : Nat) : Int))), (3, (.func (.func 177) #[] #[])), (8, (.int .i64 ((i : Nat) : Int))), (9, (.int .i64 ((j : Nat) : Int)))] [.row (α := Ev) 244 datav data2, B] a_ w_) (i + 1) ⟨i, data1, (by omega), hX2, zdata1, (by first | omega | grind), (by first | omega | grind), (h.sub ⟨rfl, rfl, rfl, rfl, rfl, rfl, trivial⟩)⟩ ?_
  clear h ac wo; rintro n2 ac wo ⟨j, data2, hm2, hL2, zdata2, hj, hdl2, h⟩
  obtain ⟨m2, rfl⟩ : ∃ m, n2 = m + 1 := ⟨n2 - 1, by omega⟩
  refine di fun K6 hK6 => ?_
  refine di fun K7 hK7 => ?_
  have s1 := Calls.pr ((fun w_ hB_ hS_ => iC (gt data2 j) (gt data2 (j - 1)) (All.gt zdata2 (kR _)) (All.gt zdata2 (kR _)) w_ ) _ h.bel h.sep)
  have p2 := s1
  refine cb mixed [dv _, dv _, dv _, dv _, dv _, dv _, dv _, dv _, dw _ [0], dv _, dv _, dv _, dv _, dw _ [0], dv _, dv _, dv _] [⟨_, []⟩, ⟨_, []⟩] h rfl (by kernel_rfl) ⟨fun _ _ => om rfl, fun _ _ => om rfl, fun _ _ => aq (iZ rfl rfl), fun _ _ => om rfl, fun _ _ => oh rfl rfl rfl rfl (fun hg => af rfl), fun _ _ => oh rfl rfl rfl rfl (fun hg => af rfl), fun _ _ => oh rfl rfl rfl rfl (fun hg => af rfl), fun _ _ => oh rfl rfl rfl rfl (fun hg => dh (i := j) uu240 zz244 (an rfl hg) (an rfl hg) (h.row_nn 0 rfl (by first | omega | (simp at hg; omega) | grind)) (by first | omega | (simp at hg; omega) | grind)), fun _ _ => oh rfl rfl rfl rfl (fun hg => dA (k := 0) aa244 zz244 (bi (by first | omega | (simp at hg; omega) | grind)) (an rfl hg) (Nat.add_zero _) rfl rfl (v := (vE (gt data2 j))) rfl), fun _ _ => oh rfl rfl rfl rfl (fun hg => af rfl), fun _ _ => oh rfl rfl rfl rfl (fun hg => af rfl), fun _ _ => oh rfl rfl rfl rfl (fun hg => dB (an rfl hg) rfl (r := (((j - 1) : Nat) : Int)) (by rw [IntKind.wrap_i64]; first | omega | (simp at hg; omega) | grind)), fun _ _ => oh rfl rfl rfl rfl (fun hg => dh (i := (j - 1)) uu240 zz244 (an rfl hg) (an rfl hg) (h.row_nn 0 rfl (by first | omega | (simp at hg; omega) | grind)) (by first | omega | (simp at hg; omega) | grind)), fun _ _ => oh rfl rfl rfl rfl (fun hg => dA (k := 0) aa244 zz244 (bi (by first | omega | (simp at hg; omega) | grind)) (an rfl hg) (Nat.add_zero _) rfl rfl (v := (vE (gt data2 (j - 1)))) rfl), fun _ _ => og1 rfl rfl rfl rfl (fun hg => ec (np (cap := []) Tryz.call177 (an rfl hg) (bu (an rfl hg) (bu (an rfl hg) rfl))) (kk (iC (gt data2 j) (gt data2 (j - 1)) (All.gt zdata2 (kR _)) (All.gt zdata2 (kR _))))), fun _ _ => oh rfl rfl rfl rfl (fun hg => dk (an rfl hg) rfl), fun _ _ => aq (de rfl (fun e => (an rfl e))), trivial⟩ ?_
  clear h ac wo; intro ξ ac wo hφ h
  replace h : St w0 53 [(0, datav), (1, (.int .i64 ((a : Nat) : Int))), (2, (.int .i64 ((b : Nat) : Int))), (3, (.func (.func 177) #[] #[])), (8, (.int .i64 ((i : Nat) : Int))), (9, (.int .i64 ((j : Nat) : Int))), (34, (.bool ((decide (((j : Nat) : Int) > ((a : Nat) : Int))) && (decide ((ce (gt data2 j) (gt data2 (j - 1))) < 0)))))] [.row (α := Ev) 244 datav data2, B] ac wo := (h.pick [0, 1] (by decide)).sub ⟨rfl, rfl, rfl, rfl, rfl, rfl, rfl, trivial⟩
  clear hφ ξ
  refine hK7 _ _ ?_
  refine dg h rfl (fun hc2 => ?_) (fun hc2 => ?_)
  ·
   have hq2 := hc2; try simp at hq2
   refine dI ?_
   refine hK6 _ _ ?_
   refine di fun K8 hK8 => ?_
   refine eX ?_
   refine cb mixed [dv _, dv _, dv _, dv _, dv _, dv _, dv _, dv _, dv _, dw _ [0], dv _, dv _, dv _, dw _ [0], dv _, dw _ [0], dv _, dw _ [0]] [⟨.row (α := Ev) 244 datav data2, [(15, .con (.row (α := Ev) 244 datav (data2.set j (gt data2 (j - 1))))), (17, .con (.row (α := Ev) 244 datav ((data2.set j (gt data2 (j - 1))).set (j - 1) (gt data2 j))))]⟩, ⟨_, []⟩] h rfl (by kernel_rfl) ⟨fun _ _ => om rfl, fun _ _ => om rfl, fun _ _ => om rfl, fun _ _ => om rfl, fun _ _ => aq (dB rfl rfl (r := (((j - 1) : Nat) : Int)) (by rw [IntKind.wrap_i64]; first | omega | grind)), fun _ _ => om rfl, fun _ _ => om rfl, fun _ _ => aq (dB rfl rfl (r := (((j - 1) : Nat) : Int)) (by rw [IntKind.wrap_i64]; first | omega | grind)), fun _ _ => aq (dh (i := (j - 1)) uu240 zz244 rfl rfl (h.row_nn 0 rfl (by first | omega | grind)) (by first | omega | grind)), fun _ _ => cp _ rfl rfl (dA (k := 0) aa244 zz244 (bi (by first | omega | grind)) rfl (Nat.add_zero _) rfl rfl (v := (vE (gt data2 (j - 1)))) rfl), fun _ _ => om rfl, fun _ _ => om rfl, fun _ _ => aq (dh (i := j) uu240 zz244 rfl rfl (h.row_nn 0 rfl (by first | omega | grind)) (by first | omega | grind)), fun _ _ => cp _ rfl rfl (dA (k := 0) aa244 zz244 (bi (by first | omega | grind)) rfl (Nat.add_zero _) rfl rfl (v := (vE (gt data2 j))) rfl), fun _ _ => aq (dh (i := j) uu240 zz244 rfl rfl (h.row_nn 0 rfl (by first | omega | grind)) (by first | omega | grind)), fun _ _ => ff _ [.row (α := Ev) 244 datav (data2.set j (gt data2 (j - 1)))] rfl rfl (fc (k := 0) (u' := (gt data2 (j - 1))) zz244 (bi (by first | omega | grind)) rfl (Nat.add_zero _) rfl rfl rfl rfl rfl rfl), fun _ _ => aq (dh (i := (j - 1)) uu240 zz244 rfl rfl (h.row_nn 0 rfl (by first | omega | grind)) (by first | omega | grind)), fun _ _ => ff _ [.row (α := Ev) 244 datav ((data2.set j (gt data2 (j - 1))).set (j - 1) (gt data2 j))] rfl rfl (fc (k := 0) (u' := (gt data2 j)) zz244 (bi (by first | omega | grind)) rfl (Nat.add_zero _) rfl rfl rfl rfl rfl rfl), trivial⟩ ?_
   clear h ac wo; intro ξ ac wo hφ h
   replace h : St w0 53 [(0, datav), (1, (.int .i64 ((a : Nat) : Int))), (2, (.int .i64 ((b : Nat) : Int))), (3, (.func (.func 177) #[] #[])), (8, (.int .i64 ((i : Nat) : Int))), (9, (.int .i64 ((j : Nat) : Int)))] [.row (α := Ev) 244 datav ((data2.set j (gt data2 (j - 1))).set (j - 1) (gt data2 j)), B] ac wo := (h.pick [0, 1] (by decide)).sub ⟨rfl, rfl, rfl, rfl, rfl, rfl, trivial⟩
   clear hφ ξ
   refine gz h <| gN <| gx hK8 <| gR <| g0 (af rfl) rfl <| g0 (dB rfl rfl (r := (((j - 1) : Nat) : Int)) (by rw [IntKind.wrap_i64]; first | omega | grind)) rfl <| g0 (ae rfl) rfl <| gx (fun _ _ => bo) ?_; clear h ac wo; intro ac wo h
   exact aC ⟨m2, (by omega), _, _, (by first | omega | grind), bA hL2 (show cu data a b i data1 j data2 = .go _ from (cT hc2)), (All.set (All.set zdata2 (All.gt zdata2 (kR _))) (All.gt zdata2 (kR _))), (by first | omega | grind), (by first | omega | grind), (h.pick [0, 1] (by decide)).sub ⟨rfl, rfl, rfl, rfl, rfl, rfl, trivial⟩⟩
  ·
   have hq2 := hc2; try simp at hq2
   refine dK ?_
   have hx2 := dz hL2 (show cu data a b i data1 j data2 = .out (j, data2) from (cF hc2))
   refine gz h <| gx hK4 <| gR <| g0 (af rfl) rfl <| g0 (bt rfl rfl (r := ((i + 1 : Nat) : Int)) (by rw [IntKind.wrap_i64]; first | omega | grind)) rfl <| g0 (ae rfl) rfl <| gx (fun _ _ => bo) ?_; clear h ac wo; intro ac wo h
   exact aC ⟨m1, (by omega), _, _, (by first | omega | grind), bA hL1 (show cv data a b i data1 = .go _ from (Eq.trans (cT hc1) (ew (hX2.trans hx2)))), (by first | omega | grind), zdata2, (by first | omega | grind), (h.pick [0, 1] (by decide)).sub ⟨rfl, rfl, rfl, rfl, rfl, trivial⟩⟩
 ·
  have hd1 := of_decide_eq_false hc1
  refine dK ?_
  have hx1 := dz hL1 (show cv data a b i data1 = .out (i, data1) from (cF hc1))
  have hd : bj data a b = data1 := (ew (hX1.trans hx1))
  exact retN (vs := []) h rfl .nil rfl ((h.pick [0, 1] (by decide)).retY ⟨rfl, (by rw [hd]; exact ⟨zdata1, (by first | omega | grind)⟩)⟩ (by rw [hd]; rfl))
attribute [irreducible] bj
end Go.Sx
namespace Go.Sx
open Go Go.RowKit Go.Proofs
set_option maxRecDepth 100000
set_option maxHeartbeats 40000000
attribute [local irreducible] ao bU aj az bE aP aE aA dG cj aQ
def bY (data : List Ev) (a : Nat) (b : Nat) (limit : Int) : List Ev :=
 (bj data a b)
theorem gA (data : List Ev) (datav : Value) (a : Nat) (b : Nat) (limit : Int) (hab : a ≤ b) (hb : b ≤ data.length) (hb2 : b ≤ 1000) (h12 : b ≤ a + 12) (zdata : All (SzE 30) data) (w0 w : World) (B : Asn) (hbel : Below w0.heap.size w0 w) (hsep : ∃ Z_, Sep w0.heap.size w [.row (α := Ev) 244 datav data, B] Z_)  : Calls Tryz.prog 199 #[datav, (.int .i64 ((a : Nat) : Int)), (.int .i64 ((b : Nat) : Int)), (.int .i64 limit), (.func (.func 177) #[] #[])] w (RetY w0 (fun v => v = .tuple #[] ∧ (All (SzE 30) (bY data a b limit) ∧ (bY data a b limit).length = data.length)) (fun v => [.row (α := Ev) 244 datav (bY data a b limit), B])) := by
 refine jA (N := 148) (args := [datav, (.int .i64 ((a : Nat) : Int)), (.int .i64 ((b : Nat) : Int)), (.int .i64 limit), (.func (.func 177) #[] #[])]) Tryz.func199 rfl rfl hbel hsep ?_; intro ac h
 have hlendata := h.len 0 rfl
 refine d8 fun K1 hK1 => ?_
 refine rd0 h (ae rfl) rfl <| gn hK1 <| gr fun K2 hK2 => g0 (ae rfl) rfl <| gn hK2 <| gB ?_; clear h ac; intro ac wo h
 refine mU 1 ?_
 refine gz h <| gB <| gr fun K3 hK3 => g0 (af rfl) rfl <| g0 (af rfl) rfl <| g0 (dB rfl rfl (r := (((b - a) : Nat) : Int)) (by rw [IntKind.wrap_i64]; first | omega | grind)) rfl <| g0 (ae rfl) rfl <| gn hK3 <| gq fun K4 hK4 => gr fun K5 hK5 => g0 (af rfl) rfl <| g0 (r_leq rfl rfl) rfl <| gn hK5 ?_; clear h ac wo; intro ac wo h
 refine qM h rfl ?_ (decide_eq_true (by omega))
 refine gz h <| gr fun K6 hK6 => g0 (af rfl) rfl <| g0 (af rfl) rfl <| g0 (af rfl) rfl <| g0 (af rfl) rfl ?_; clear h ac wo; intro ac wo h
 refine on1 h 0 rfl (kG (vs := [datav, (.int .i64 ((a : Nat) : Int)), (.int .i64 ((b : Nat) : Int)), (.func (.func 177) #[] #[])]) (A := fun v => [.row (α := Ev) 244 datav (bj data a b)]) (c8 Tryz.call225 rfl) (fun w_ B_ hB_ hS_ => fz data datav a b (by first | omega | grind) (by first | omega | grind) (by first | omega | grind) zdata w0 w_ B_ hB_ hS_ )) rfl ?_; clear h ac wo; intro vc ac wo s2 h
 obtain rfl : vc = _ := s2.1
 have p3 := s2.2.2
 refine bo ?_
 refine hK6 _ _ ?_
 replace h := h.sub (F' := []) trivial
 refine e7 ?_
 have hd : bY data a b limit = (bj data a b) := rfl
 exact ret (vs := []) h rfl .nil rfl ((h.pick [0, 1] (by decide)).retY ⟨rfl, (by rw [hd]; exact ⟨s2.2.1, (by first | omega | grind)⟩)⟩ (by rw [hd]; rfl))
attribute [irreducible] bY
end Go.Sx
namespace Go.Sx
open Go Go.RowKit Go.Proofs
set_option maxRecDepth 100000
set_option maxHeartbeats 40000000
attribute [local irreducible] ao bU aj az bE aP aE aA dG cj aQ
def eI (x : Nat) : Int :=
 ((Lib.bitLen x : Nat) : Int)
theorem kN (x : Nat) (hx : x < 18446744073709551616) (w0 : World)  : Calls Tryz.prog 200 #[(.int .u64 ((x : Nat) : Int))] w0 (eE w0 (.int .i64 (eI x)) (True)) := by
 refine enter (N := 8) (args := [(.int .u64 ((x : Nat) : Int))]) Tryz.func200 rfl rfl ?_; intro ac h
 refine d8 fun K1 hK1 => ?_
 refine rd0 h (ae rfl) rfl <| gn hK1 <| gq fun K2 hK2 => ?_; clear h ac; intro ac wo h
 refine mO h rfl ?_
 refine gz h <| gS <| gx hK2 <| gr fun K3 hK3 => g0 (af rfl) rfl <| gc (c8 Tryz.call197 rfl) (kk (oU x (by assumption))) rfl <| g0 (ae rfl) rfl <| gn hK3 <| gT ?_; clear h ac wo; intro ac wo h
 exact ret h rfl (.tmp rfl .nil) rfl (h.retP (by unfold eI; rfl) trivial)
attribute [irreducible] eI
def ah (x : List Ev) : List Ev :=
 (bY x 0 x.length (eI x.length))
theorem iw (x : List Ev) (xv : Value) (hl : x.length ≤ 12) (zx : All (SzE 30) x) (w0 w : World) (B : Asn) (hbel : Below w0.heap.size w0 w) (hsep : ∃ Z_, Sep w0.heap.size w [.row (α := Ev) 244 xv x, B] Z_)  : Calls Tryz.prog 176 #[xv, (.func (.func 177) #[] #[])] w (RetY w0 (fun v => v = .tuple #[] ∧ (All (SzE 30) (ah x) ∧ (ah x).length = x.length)) (fun v => [.row (α := Ev) 244 xv (ah x), B])) := by
 refine jA (N := 14) (args := [xv, (.func (.func 177) #[] #[])]) Tryz.func176 rfl rfl hbel hsep ?_; intro ac h
 have hlenx := h.len 0 rfl
 refine d8 fun K1 hK1 => ?_
 refine rd0 h (af rfl) rfl ?_; clear h ac; intro ac wo h
 refine rd0 h (dp uu240 rfl (h.row_sl 0 rfl)) rfl <| g0 (ae rfl) rfl <| gn hK1 <| gR <| g0 (af rfl) rfl <| g0 (af rfl) rfl <| g0 (af rfl) rfl <| g0 (ba Tryz.runUnderlying3 Tryz.runUnderlying251 rfl (r := ((x.length : Nat) : Int)) (by rw [IntKind.wrap_u64]; first | omega | grind)) rfl <| gc (c8 Tryz.call200 rfl) (kk (kN x.length (by first | omega | grind))) rfl <| g0 (af rfl) rfl ?_; clear h ac wo; intro ac wo h
 refine on1 h 0 rfl (kG (vs := [xv, (.int .i64 0), (.int .i64 ((x.length : Nat) : Int)), (.int .i64 (eI x.length)), (.func (.func 177) #[] #[])]) (A := fun v => [.row (α := Ev) 244 xv (bY x 0 x.length (eI x.length))]) (c8 Tryz.call199 rfl) (fun w_ B_ hB_ hS_ => gA x xv 0 x.length (eI x.length) (by first | omega | grind) (by first | omega | grind) (by first | omega | grind) (by first | omega | grind) zx w0 w_ B_ hB_ hS_ )) rfl ?_; clear h ac wo; intro vc ac wo s2 h
 obtain rfl : vc = _ := s2.1
 have p3 := s2.2.2
 refine bo ?_
 have hd : ah x = (bY x 0 x.length (eI x.length)) := rfl
 exact retN (vs := []) h rfl .nil rfl ((h.pick [0, 1] (by decide)).retY ⟨rfl, (by rw [hd]; exact ⟨s2.2.1, (by first | omega | grind)⟩)⟩ (by rw [hd]; rfl))
attribute [irreducible] ah
end Go.Sx
namespace Go.Sx
theorem pJ (l : List Ev) : ah l = isort ce l 0 l.length := by
  unfold ah bY
  show bj l 0 l.length = _
  unfold bj
  rfl
theorem kz (l : List Ev) : (ah l).Perm l := by rw [pJ]; exact pc l
def EvB (e : Ev) : Prop := (-1 ≤ e.b0 ∧ e.b0 ≤ 1) ∧ (-1 ≤ e.b1 ∧ e.b1 ≤ 1)
theorem evb_nil : ∀ e ∈ ([] : List Ev), EvB e := fun _ h => by cases h
theorem qv {l : List Ev} (h : ∀ e ∈ l, EvB e) {x y : Bd} {a b c d : Int} (h1 : (-1 ≤ a ∧ a ≤ 1) ∧ (-1 ≤ b ∧ b ≤ 1)) (h2 : (-1 ≤ c ∧ c ≤ 1) ∧ (-1 ≤ d ∧ d ≤ 1)) : ∀ e ∈ l ++ [⟨x, a, b⟩, ⟨y, c, d⟩], EvB e := fun e he => by
  rcases List.mem_append.1 he with he | he
  · exact h e he
  · rcases List.mem_cons.1 he with rfl | he
    · exact h1
    · rw [List.mem_singleton.1 he]; exact h2
theorem evb_gt {l : List Ev} (h : ∀ e ∈ l, EvB e) (i : Nat) : EvB (gt (ah l) i) := by
  have hp := kz l
  by_cases hi : i < (ah l).length
  · have : gt (ah l) i ∈ ah l := by
      unfold gt
      rw [List.getD_eq_getElem?_getD, List.getElem?_eq_getElem hi]
      exact List.getElem_mem _
    exact h _ (hp.mem_iff.1 this)
  · have : gt (ah l) i = default := by unfold gt; rw [List.getD_eq_getElem?_getD, List.getElem?_eq_none (by omega)]; rfl
    rw [this]; exact ⟨⟨by decide, by decide⟩, ⟨by decide, by decide⟩⟩
end Go.Sx
