/- A part of the proof that the law PiecesRefines answers true at every input and leaves its arguments as they were. -/
import Derived.Test.YtnkaneggnjallaaGreatDoorH4
set_option linter.unusedVariables false
set_option linter.unusedSimpArgs false
open Go.Proofs.Tryz renaming underlying24 → nn24, isAgg69 → aa69, sizeOf69 → zz69, isAgg53 → aa53, sizeOf53 → zz53, runUnderlying55 → uu55, sizeOf4 → zz4, isAgg4 → aa4, runUnderlying24 → uu24, sizeOf87 → zz87, runUnderlying87 → uu87, sizeOf55 → zz55, isAgg87 → aa87, call170 → cc170, isAgg24 → aa24, sizeOf24 → zz24, isAgg55 → aa55
namespace Go.Sx
open Go Go.RowKit Go.Proofs
set_option maxRecDepth 100000
set_option maxHeartbeats 40000000
attribute [local irreducible] ao bU aj az bE aP aE aA dG cj aQ
theorem er : SlT Tryz.prog 24 87 32 360 [.bool false, .string ⟨#[]⟩, .bool false, .string ⟨#[]⟩, .bool false, .string ⟨#[]⟩, .bool false, .string ⟨#[]⟩, .bool false, .bool false, .string ⟨#[]⟩, .bool false, .string ⟨#[]⟩, .bool false, .string ⟨#[]⟩, .bool false, .string ⟨#[]⟩, .bool false, .bool false, .bool false, .bool false, .string ⟨#[]⟩, .bool false, .string ⟨#[]⟩, .bool false, .string ⟨#[]⟩, .bool false, .string ⟨#[]⟩, .bool false, .string ⟨#[]⟩, .bool false, .string ⟨#[]⟩] := ⟨nn24, Tryz.t87, _, Tryz.type87, rfl, rfl, rfl, rfl, rfl, by decide, by decide⟩
def cg (f : Qd) (g : Qd) : Bool :=
 (decide (f = g))
theorem gF (f : Qd) (g : Qd) (zf : SzD 20 f) (zg : SzD 20 g) (w0 : World)  : Calls Tryz.prog 305 #[(.agg #[]), (vD f), (vD g)] w0 (eE w0 (.bool (cg f g)) (True)) := by
 refine enter (N := 10) (args := [(.agg #[]), (vD f), (vD g)]) Tryz.func305 rfl rfl ?_; intro ac h
 refine d8 fun K1 hK1 => ?_
 refine bx h [] rfl rfl rfl fun b1 => gb (cD f) rfl rfl rfl fun b2 => gb (cD g) rfl rfl rfl fun b3 => g0 (ae rfl) rfl <| gn hK1 <| gr fun K2 hK2 => g1 1 rfl (aS aa69 zz69 rfl rfl rfl (v := (vD f)) rfl) rfl <| g1 0 rfl (aS aa69 zz69 rfl rfl rfl (v := (vD g)) rfl) rfl <| g0 (gC pk rfl rfl) rfl <| g0 (ae rfl) rfl <| gn hK2 <| gT ?_; clear h ac; intro ac wo h
 exact ret h rfl (.tmp rfl .nil) rfl (h.retP (by unfold cg; rfl) trivial)
attribute [irreducible] cg
def aK (f : Qd) (g : Qd) (t : GR) : Bool :=
 (bE f g t)
theorem du (f : Qd) (g : Qd) (t : GR) (zf : SzD 20 f) (zg : SzD 20 g) (zt : SzR 30 t) (w0 : World)  : Calls Tryz.prog 35 #[(.agg #[]), (vD f), (vD g), (vR t)] w0 (eE w0 (.bool (aK f g t)) (True)) := by
 refine enter (N := 13) (args := [(.agg #[]), (vD f), (vD g), (vR t)]) Tryz.func35 rfl rfl ?_; intro ac h
 refine d8 fun K1 hK1 => ?_
 refine bx h [] rfl rfl rfl fun b1 => gb (cD f) rfl rfl rfl fun b2 => gb (cD g) rfl rfl rfl fun b3 => gb (cR t) rfl rfl rfl fun b4 => g0 (ae rfl) rfl <| gn hK1 <| gr fun K2 hK2 => g1 2 rfl (aS aa69 zz69 rfl rfl rfl (v := (vD f)) rfl) rfl <| g1 1 rfl (aS aa69 zz69 rfl rfl rfl (v := (vD g)) rfl) rfl <| g1 0 rfl (aS aa53 zz53 rfl rfl rfl (v := (vR t)) rfl) rfl <| gc (c8 Tryz.call30 rfl) (kk (kj f g t 6 (by omega) zf zg (df zt (by omega)))) rfl <| g0 (ae rfl) rfl <| gn hK2 <| gT ?_; clear h ac; intro ac wo h
 exact ret h rfl (.tmp rfl .nil) rfl (h.retP (by unfold aK; rfl) trivial)
attribute [irreducible] aK
def aG (f : Qd) (t : GR) : Qd :=
 (aP f t)
theorem ey (f : Qd) (t : GR) (zf : SzD 30 f) (zt : SzR 30 t) (w0 : World)  : Calls Tryz.prog 36 #[(.agg #[]), (vD f), (vR t)] w0 (eE w0 (vD (aG f t)) (SzD 20 (aG f t))) := by
 refine enter (N := 10) (args := [(.agg #[]), (vD f), (vR t)]) Tryz.func36 rfl rfl ?_; intro ac h
 have c1 := fG f t 20 (by omega) zf zt
 have s1 := ax (c1 w0)
 refine d8 fun K1 hK1 => ?_
 refine bx h [] rfl rfl rfl fun b1 => gb (cD f) rfl rfl rfl fun b2 => gb (cR t) rfl rfl rfl fun b3 => ga (cD oD) Tryz.zeroValue69 rfl rfl fun b4 => gn hK1 <| gr fun K2 hK2 => g1 2 rfl (aS aa69 zz69 rfl rfl rfl (v := (vD f)) rfl) rfl <| g1 1 rfl (aS aa53 zz53 rfl rfl rfl (v := (vR t)) rfl) rfl <| gc (c8 Tryz.call37 rfl) (kk c1) rfl <| gs 0 (cD (aP f t)) rfl zz69 rfl rfl rfl rfl rfl rfl rfl <| gn hK2 <| gT ?_; clear h ac; intro ac wo h
 exact ret h rfl (.cell (v := (vD (aP f t))) rfl (i := 0) rfl aa69 zz69 rfl rfl rfl .nil) rfl (h.retP (by unfold aG; rfl) (by unfold aG; exact s1))
attribute [irreducible] aG
def a8 (s : List (U Qd)) : (List (U Qd)) := s
theorem em (s : List (U Qd)) (sv : Value) (hl : s.length ≤ 1000) (zs : All (i3 30) s) (w0 : World) (hsv : View w0 sv s) : Calls Tryz.prog 166 #[sv] w0 (RetR w0 87 (a8 s) (All (i3 30) (a8 s) ∧ (a8 s) = s ∧ (a8 s).length = s.length)) := by
 refine enter (N := 8) (args := [sv]) Tryz.func166 rfl rfl ?_; intro ac h
 have hlens := hsv.len
 refine d8 fun K1 hK1 => ?_
 refine rd0 h (ae rfl) rfl <| gn hK1 <| gq fun K2 hK2 => gr fun K3 hK3 => g0 (af rfl) rfl <| g0 (r_eqlSN nn24 hsv.sl rfl) rfl <| gn hK3 ?_; clear h ac; intro ac wo h
 refine dg h rfl (fun hc1 => ?_) (fun hc1 => ?_)
 ·
  have hq1 := hc1; try simp at hq1
  refine gz h <| gr fun K4 hK4 => g0 (ae rfl) rfl <| gn hK4 <| gT ?_; clear h ac wo; intro ac wo h
  replace h := h.nilRow (α := U Qd) 87
  have hd : a8 s = [] := (hsv.nil hc1).1
  exact ret h rfl (.tmp rfl .nil) rfl (by rw [hd]; exact h.retR 0 rfl ⟨All.nil, ⟨(hsv.nil hc1).1.symm, by rw [(hsv.nil hc1).1]⟩⟩)
 ·
  have hq1 := hc1; try simp at hq1
  refine dI ?_
  refine hK2 _ _ ?_
  refine d8 fun K5 hK5 => ?_
  refine nw h (cn (α := U Qd) (xs := []) (vs := []) [] er rfl rfl rfl (by decide)) rfl ?_; clear h ac wo; intro sv2 ac wo nnsv2 h
  refine rd0 h (af rfl) rfl ?_; clear h ac wo; intro ac wo h
  refine on1 h 0 rfl (s_appV (xs := []) (ys := s) er hsv rfl rfl (by first | omega | grind)) rfl ?_; clear h ac wo; intro sv3 ac wo apsv3 h
  refine rd0 h (ae rfl) rfl <| gn hK5 <| gT ?_; clear h ac wo; intro ac wo h
  exact ret h rfl (.tmp rfl .nil) rfl (by unfold a8; exact h.retR 0 rfl ⟨(All.app All.nil zs), ⟨rfl, rfl⟩⟩)
attribute [irreducible] a8
def aN (i : Iv) : Int :=
 bif i.openLo then
  1
 else
  0
theorem d9 (i : Iv) (zi : SzV 30 i) (w0 : World)  : Calls Tryz.prog 169 #[(vV i)] w0 (eE w0 (.int .i64 (aN i)) ((-1 ≤ (aN i) ∧ (aN i) ≤ 1))) := by
 refine enter (N := 5) (args := [(vV i)]) Tryz.func169 rfl rfl ?_; intro ac h
 refine d8 fun K1 hK1 => ?_
 refine bx h (cV i) rfl rfl rfl fun b1 => g0 (ae rfl) rfl <| gn hK1 <| gq fun K2 hK2 => gr fun K3 hK3 => g0 (fa uu55 rfl zz4 rfl rfl rfl (k' := 18)) rfl <| g1 0 rfl (aS aa4 zz4 rfl rfl rfl (v := (.bool i.openLo)) rfl) rfl <| gn hK3 ?_; clear h ac; intro ac wo h
 refine dg h rfl (fun hc1 => ?_) (fun hc1 => ?_)
 ·
  have hq1 := hc1; try simp at hq1
  refine gz h <| gr fun K4 hK4 => g0 (ae rfl) rfl <| gn hK4 <| gT ?_; clear h ac wo; intro ac wo h
  have hd : aN i = 1 := (cT hc1)
  exact ret h rfl (.tmp rfl .nil) rfl (h.retP (by rw [hd] <;> rfl) (by rw [hd]; exact (by first | omega | grind)))
 ·
  have hq1 := hc1; try simp at hq1
  refine gz h <| gS <| gx hK2 <| gr fun K5 hK5 => g0 (ae rfl) rfl <| gn hK5 <| gT ?_; clear h ac wo; intro ac wo h
  have hd : aN i = 0 := (cF hc1)
  exact ret h rfl (.tmp rfl .nil) rfl (h.retP (by rw [hd] <;> rfl) (by rw [hd]; exact (by first | omega | grind)))
attribute [irreducible] aN
def ej (l : List (U Qd)) (t : GR) : Bool :=
 (((decide (((l.length : Nat) : Int) > 0)) && (decide (((gt l (l.length - 1)).iv).hi = t))) && (!((gt l (l.length - 1)).iv).openHi))
theorem g6 (l : List (U Qd)) (lv : Value) (t : GR) (zl : All (i3 20) l) (zt : SzR 30 t) (w0 : World) (hlv : View w0 lv l) : Calls Tryz.prog 107 #[lv, (vR t)] w0 (eE w0 (.bool (ej l t)) (True)) := by
 refine enter (N := 31) (args := [lv, (vR t)]) Tryz.func107 rfl rfl ?_; intro ac h
 have hlenl := hlv.len
 refine d8 fun K1 hK1 => ?_
 refine bx h (cR t) rfl rfl rfl fun b1 => g0 (ae rfl) rfl <| gn hK1 <| gr fun K2 hK2 => g0 (af rfl) rfl <| g0 (dp uu24 rfl hlv.sl) rfl <| g0 (ae rfl) rfl <| gn hK2 <| gq fun K3 hK3 => ?_; clear h ac; intro ac wo h
 refine cb mixed [dv _, dv _, dv _, dv _, dv _, dv _, dv _, dv _, dv _, dv _, dw _ [0], dv _, dv _, dv _, dv _, dv _, dv _, dv _, dv _, dv _, dv _, dv _, dv _, dv _] [⟨_, []⟩] h rfl (by kernel_rfl) ⟨fun _ _ => om rfl, fun _ _ => aq (iZ rfl rfl), fun _ _ => om rfl, fun _ _ => oh rfl rfl rfl rfl (fun hg => af rfl), fun _ _ => oh rfl rfl rfl rfl (fun hg => af rfl), fun _ _ => oh rfl rfl rfl rfl (fun hg => dB (an rfl hg) rfl (r := (((l.length - 1) : Nat) : Int)) (by rw [IntKind.wrap_i64]; first | omega | (simp at hg; omega) | grind)), fun _ _ => oh rfl rfl rfl rfl (fun hg => dh (i := (l.length - 1)) uu24 zz87 (an rfl hg) (an rfl hg) (hlv.nn (i := (l.length - 1)) (by first | omega | (simp at hg; omega) | grind)) (by first | omega | (simp at hg; omega) | grind)), fun _ _ => oh rfl rfl rfl rfl (fun hg => eC uu87 rfl zz55 (by decide) (hlv.nn (i := 0) (by first | omega | (simp at hg; omega) | grind)) (an rfl hg) rfl (k' := (l.length - 1) * 32 + 0)), fun _ _ => oh rfl rfl rfl rfl (fun hg => eC uu55 rfl zz53 (by decide) (hlv.nn (i := 0) (by first | omega | (simp at hg; omega) | grind)) (an rfl hg) (by first | rfl | (simp only [Nat.add_assoc] <;> rfl)) (k' := (l.length - 1) * 32 + 9)), fun _ _ => oh rfl rfl rfl rfl (fun hg => dX (k := 9) aa53 zz53 hlv (bi (by first | omega | (simp at hg; omega) | grind)) (an rfl hg) rfl rfl rfl (v := (vR (((gt l (l.length - 1)).iv).hi))) rfl), fun _ _ => oh rfl rfl rfl rfl (fun hg => aS aa53 zz53 rfl rfl rfl (v := (vR t)) rfl), fun _ _ => oh rfl rfl rfl rfl (fun hg => gC nU (an rfl hg) (an rfl hg)), fun _ _ => aq (de rfl (fun e => (an rfl e))), fun _ _ => om rfl, fun _ _ => oh rfl rfl rfl rfl (fun hg => af rfl), fun _ _ => oh rfl rfl rfl rfl (fun hg => af rfl), fun _ _ => oh rfl rfl rfl rfl (fun hg => dB (an rfl hg) rfl (r := (((l.length - 1) : Nat) : Int)) (by rw [IntKind.wrap_i64]; first | omega | (simp at hg; omega) | grind)), fun _ _ => oh rfl rfl rfl rfl (fun hg => dh (i := (l.length - 1)) uu24 zz87 (an rfl hg) (an rfl hg) (hlv.nn (i := (l.length - 1)) (by first | omega | (simp at hg; omega) | grind)) (by first | omega | (simp at hg; omega) | grind)), fun _ _ => oh rfl rfl rfl rfl (fun hg => eC uu87 rfl zz55 (by decide) (hlv.nn (i := 0) (by first | omega | (simp at hg; omega) | grind)) (an rfl hg) rfl (k' := (l.length - 1) * 32 + 0)), fun _ _ => oh rfl rfl rfl rfl (fun hg => eC uu55 rfl zz4 (by decide) (hlv.nn (i := 0) (by first | omega | (simp at hg; omega) | grind)) (an rfl hg) (by first | rfl | (simp only [Nat.add_assoc] <;> rfl)) (k' := (l.length - 1) * 32 + 19)), fun _ _ => oh rfl rfl rfl rfl (fun hg => dX (k := 19) aa4 zz4 hlv (bi (by first | omega | (simp at hg; omega) | grind)) (an rfl hg) rfl rfl rfl (v := (.bool (((gt l (l.length - 1)).iv).openHi))) rfl), fun _ _ => oh rfl rfl rfl rfl (fun hg => dV (an rfl hg)), fun _ _ => aq (de rfl (fun e => (an rfl e))), fun _ _ => aq (ae rfl), trivial⟩ ?_
 clear h ac wo; intro ξ ac wo hφ h
 replace h : St w0 31 [(4, (.bool (((decide (((l.length : Nat) : Int) > 0)) && (decide (((gt l (l.length - 1)).iv).hi = t))) && (!((gt l (l.length - 1)).iv).openHi))))] [.blk b1 (cR t) 53] ac wo := (h.pick [0] (by decide)).sub ⟨rfl, trivial⟩
 clear hφ ξ
 refine hK3 _ _ ?_
 refine e7 ?_
 exact ret h rfl (.tmp rfl .nil) rfl (h.retP (by unfold ej; rfl) trivial)
attribute [irreducible] ej
def jo (l : List (U Qd)) (x10 : Nat) (out : List (U Qd)) : (List (U Qd)) :=
 out
def cH (l : List (U Qd)) (x10 : Nat) (out : List (U Qd)) : Nx (Nat × (List (U Qd))) (List (U Qd)) :=
 bif (decide (((x10 : Nat) : Int) < ((l.length : Nat) : Int))) then
  bif (!((gt l x10).iv).openLo) then
   bif (aQ ((gt l x10).iv)) then
    .go ((x10 + 1), (out ++ [(⟨(⟨((gt l x10).iv).lo, ((gt l x10).iv).lo, false, false⟩ : Iv), (gt l x10).f⟩ : U Qd)]))
   else
    bif (!((gt l x10).iv).openHi) then
     .go ((x10 + 1), (((out ++ [(⟨(⟨((gt l x10).iv).lo, ((gt l x10).iv).lo, false, false⟩ : Iv), (gt l x10).f⟩ : U Qd)]) ++ [(⟨(⟨((gt l x10).iv).lo, ((gt l x10).iv).hi, true, true⟩ : Iv), (gt l x10).f⟩ : U Qd)]) ++ [(⟨(⟨((gt l x10).iv).hi, ((gt l x10).iv).hi, false, false⟩ : Iv), (gt l x10).f⟩ : U Qd)]))
    else
     .go ((x10 + 1), ((out ++ [(⟨(⟨((gt l x10).iv).lo, ((gt l x10).iv).lo, false, false⟩ : Iv), (gt l x10).f⟩ : U Qd)]) ++ [(⟨(⟨((gt l x10).iv).lo, ((gt l x10).iv).hi, true, true⟩ : Iv), (gt l x10).f⟩ : U Qd)]))
  else
   bif (aQ ((gt l x10).iv)) then
    .go ((x10 + 1), out)
   else
    bif (!((gt l x10).iv).openHi) then
     .go ((x10 + 1), ((out ++ [(⟨(⟨((gt l x10).iv).lo, ((gt l x10).iv).hi, true, true⟩ : Iv), (gt l x10).f⟩ : U Qd)]) ++ [(⟨(⟨((gt l x10).iv).hi, ((gt l x10).iv).hi, false, false⟩ : Iv), (gt l x10).f⟩ : U Qd)]))
    else
     .go ((x10 + 1), (out ++ [(⟨(⟨((gt l x10).iv).lo, ((gt l x10).iv).hi, true, true⟩ : Iv), (gt l x10).f⟩ : U Qd)]))
 else
  .out (x10, out)
def ab (l : List (U Qd)) : (List (U Qd)) :=
 fin (bQ (fun s => cH l s.1 s.2) ((l.length - 0) + 1) (0, [])) (fun s => jo l s.1 s.2) (fun r => r)
theorem gI (l : List (U Qd)) (lv : Value) (hl : l.length ≤ 1000) (zl : All (i3 30) l) (w0 : World) (hlv : View w0 lv l) : Calls Tryz.prog 106 #[lv] w0 (RetR w0 87 (ab l) (All (i3 30) (ab l) ∧ (ab l).length ≤ 3 * l.length)) := by
 refine enter (N := 54) (args := [lv]) Tryz.func106 rfl rfl ?_; intro ac h
 have hlenl := hlv.len
 refine d8 fun K1 hK1 => ?_
 refine rd0 h (ae rfl) rfl <| gn hK1 <| gr fun K2 hK2 => ga [.slice none 0 0] Tryz.zeroValue24 rfl rfl fun b1 => gn hK2 <| gr fun K3 hK3 => g0 (o6 rfl) rfl <| g0 (ae rfl) rfl <| gn hK3 <| gq fun K4 hK4 => gr fun K5 hK5 => g0 (af rfl) rfl <| g0 (dp uu24 rfl hlv.sl) rfl <| g0 (af rfl) rfl <| gn hK5 <| gB ?_; clear h ac; intro ac wo h
 replace h := h.nilRow (α := U Qd) 87
 obtain ⟨X1, hX1⟩ : ∃ X, bQ (fun s => cH l s.1 s.2) ((l.length - 0) + 1) (0, []) = X := ⟨_, rfl⟩
 refine wp_loop_ghost (fun n_ a_ w_ => ∃ (x10 : Nat) (out : List (U Qd)) (outv : Value), ((l.length - x10) < n_) ∧ (bQ (fun s => cH l s.1 s.2) n_ (x10, out) = X1) ∧ (x10 ≤ l.length) ∧ (All (i3 30) out) ∧ (out.length ≤ 3 * x10) ∧ St w0 54 [(3, (ptr b1 0)), (4, (.func (.func 170) #[] #[(ptr b1 0)])), (8, lv), (9, (.int .i64 ((l.length : Nat) : Int))), (10, (.int .i64 ((x10 : Nat) : Int)))] [.row (α := U Qd) 87 outv out, .blk b1 [outv] 24] a_ w_) ((l.length - 0) + 1) ⟨0, [], (.slice none 0 0), (by omega), hX1, (by first | omega | grind), All.nil, (by first | omega | grind), (h.sub ⟨rfl, rfl, rfl, rfl, rfl, trivial⟩)⟩ ?_
 clear h ac wo; rintro n1 ac wo ⟨x10, out, outv, hm1, hL1, hx10, zout, hol, h⟩
 obtain ⟨m1, rfl⟩ : ∃ m, n1 = m + 1 := ⟨n1 - 1, by omega⟩
 refine gz h <| gr fun K6 hK6 => g0 (dk rfl rfl) rfl <| gn hK6 <| gq fun K7 hK7 => ?_; clear h ac wo; intro ac wo h
 refine dg h rfl (fun hc1 => ?_) (fun hc1 => ?_)
 ·
  have hd1 := of_decide_eq_true hc1
  refine gz h <| gS <| gx hK7 <| gq fun K8 hK8 => gB <| gr fun K9 hK9 => g0 (dh (i := x10) uu24 zz87 rfl rfl (hlv.nn (i := x10) (by first | omega | grind)) (by first | omega | grind)) rfl <| g0 (dX (k := 0) aa87 zz87 hlv (bi (by first | omega | grind)) rfl (Nat.add_zero _) rfl rfl (v := (vUD (gt l x10))) rfl) rfl <| ga (cUD (⟨(⟨(⟨oQ, oQ, false⟩ : GR), (⟨oQ, oQ, false⟩ : GR), false, false⟩ : Iv), oD⟩ : U Qd)) Tryz.zeroValue87 rfl rfl fun b2 => gs 0 (cUD (gt l x10)) rfl zz87 rfl rfl rfl rfl rfl rfl rfl <| gn hK9 <| gq fun K10 hK10 => gr fun K11 hK11 => g0 (fa uu87 rfl zz55 rfl rfl rfl (k' := 0)) rfl <| g0 (fa uu55 rfl zz4 rfl rfl rfl (k' := 18)) rfl <| g1 0 rfl (aS aa4 zz4 rfl rfl rfl (v := (.bool (((gt l x10).iv).openLo))) rfl) rfl <| g0 (dV rfl) rfl <| gn hK11 ?_; clear h ac wo; intro ac wo h
  refine dg h rfl (fun hc2 => ?_) (fun hc2 => ?_)
  ·
   have hq2 := hc2; try simp at hq2
   refine gz h <| gR <| g0 (af rfl) rfl <| g0 (fa uu87 rfl zz55 rfl rfl rfl (k' := 0)) rfl <| g0 (fa uu55 rfl zz53 rfl rfl rfl (k' := 0)) rfl <| g1 0 rfl (aS aa53 zz53 rfl rfl rfl (v := (vR (((gt l x10).iv).lo))) rfl) rfl <| g0 (fa uu87 rfl zz69 rfl rfl rfl (k' := 20)) rfl <| g1 0 rfl (aS aa69 zz69 rfl rfl rfl (v := (vD ((gt l x10).f))) rfl) rfl ?_; clear h ac wo; intro ac wo h
   refine inl (vs := [(vR (((gt l x10).iv).lo)), (vD ((gt l x10).f)), (ptr b1 0)]) (M := 13) h (np (vs := [(vR (((gt l x10).iv).lo)), (vD ((gt l x10).f))]) (cap := [(ptr b1 0)]) cc170 rfl rfl) Tryz.func170 rfl rfl rfl ?_
   clear h ac; intro R1 hR1 ac h
   refine gz h <| gr fun K12 hK12 => gb (cR (((gt l x10).iv).lo)) rfl rfl rfl fun b3 => gb (cD ((gt l x10).f)) rfl rfl rfl fun b4 => gn hK12 <| gR <| g1 4 rfl (aS aa24 zz24 rfl rfl rfl (v := outv) rfl) rfl <| g1 1 rfl (aS aa53 zz53 rfl rfl rfl (v := (vR (((gt l x10).iv).lo))) rfl) rfl <| g1 1 rfl (aS aa53 zz53 rfl rfl rfl (v := (vR (((gt l x10).iv).lo))) rfl) rfl <| g0 (bG kx rfl rfl (v := (vV (⟨((gt l x10).iv).lo, ((gt l x10).iv).lo, false, false⟩ : Iv))) rfl) rfl <| g1 0 rfl (aS aa69 zz69 rfl rfl rfl (v := (vD ((gt l x10).f))) rfl) rfl <| g0 (bG i1 rfl rfl (v := (vUD (⟨(⟨((gt l x10).iv).lo, ((gt l x10).iv).lo, false, false⟩ : Iv), (gt l x10).f⟩ : U Qd))) rfl) rfl ?_; clear h ac wo; intro ac wo h
   refine nw h (cn (α := U Qd) (xs := [.tmp 10]) (vs := [(vUD (⟨(⟨((gt l x10).iv).lo, ((gt l x10).iv).lo, false, false⟩ : Iv), (gt l x10).f⟩ : U Qd))]) [(⟨(⟨((gt l x10).iv).lo, ((gt l x10).iv).lo, false, false⟩ : Iv), (gt l x10).f⟩ : U Qd)] er rfl rfl rfl (by decide)) rfl ?_; clear h ac wo; intro sv2 ac wo nnsv2 h
   refine on2 h 4 0 rfl rfl (d4 (xs := out) (ys := [(⟨(⟨((gt l x10).iv).lo, ((gt l x10).iv).lo, false, false⟩ : Iv), (gt l x10).f⟩ : U Qd)]) er (fun w hs => (row_view hs 0 rfl)) rfl rfl (by first | omega | grind)) rfl ?_; clear h ac wo; intro sv3 ac wo apsv3 h
   refine st h 5 [sv3] rfl zz24 rfl rfl (jO (h.row_sl 0 rfl)) rfl (mX (h.row_sl 0 rfl)) rfl rfl <| gx (fun _ _ => bo) ?_; clear h ac wo; intro ac wo h
   refine retN (rs := []) (vs := []) h rfl .nil rfl (hR1 _ _ _ h.bel h.sep ?_)
   clear h ac hR1; intro ac h
   refine gz h <| gn hK10 <| gq fun K13 hK13 => gr fun K14 hK14 => g0 (fa uu87 rfl zz55 rfl rfl rfl (k' := 0)) rfl <| g1 4 rfl (aS aa55 zz55 rfl rfl rfl (v := (vV ((gt l x10).iv))) rfl) rfl <| gc (c8 Tryz.call83 rfl) (kk (d5 ((gt l x10).iv))) rfl <| gn hK14 ?_; clear h ac wo; intro ac wo h
   replace h := h.sub (F' := [(3, (ptr b1 0)), (4, (.func (.func 170) #[] #[(ptr b1 0)])), (8, lv), (9, (.int .i64 ((l.length : Nat) : Int))), (10, (.int .i64 ((x10 : Nat) : Int))), (6, (ptr b2 0)), (27, (.bool (aQ ((gt l x10).iv))))]) ⟨rfl, rfl, rfl, rfl, rfl, rfl, rfl, trivial⟩
   refine dg h rfl (fun hc3 => ?_) (fun hc3 => ?_)
   ·
    have hq3 := hc3; try simp at hq3
    refine gz h <| gE <| gx hK8 <| gR <| g0 (bt rfl rfl (r := ((x10 + 1 : Nat) : Int)) (by rw [IntKind.wrap_i64]; first | omega | grind)) rfl <| g0 (af rfl) rfl <| gx (fun _ _ => bo) ?_; clear h ac wo; intro ac wo h
    exact aC ⟨m1, (by omega), _, _, _, (by first | omega | grind), bA hL1 (show cH l x10 out = .go _ from (Eq.trans (cT hc1) (Eq.trans (cT hc2) (cT hc3)))), (by first | omega | grind), (All.app zout (All.cons ⟨⟨((All.gt zl (bW _)).1).1, ((All.gt zl (bW _)).1).1⟩, (All.gt zl (bW _)).2⟩ All.nil)), (by first | omega | grind), (h.pick [0, 5] (by decide)).sub ⟨rfl, rfl, rfl, rfl, rfl, trivial⟩⟩
   ·
    have hq3 := hc3; try simp at hq3
    refine gz h <| gS <| gx hK13 <| gr fun K15 hK15 => g1 5 rfl (aS aa24 zz24 rfl rfl rfl (v := sv3) rfl) rfl <| g0 (fa uu87 rfl zz55 rfl rfl rfl (k' := 0)) rfl <| g0 (fa uu55 rfl zz53 rfl rfl rfl (k' := 0)) rfl <| g1 4 rfl (aS aa53 zz53 rfl rfl rfl (v := (vR (((gt l x10).iv).lo))) rfl) rfl <| g0 (fa uu87 rfl zz55 rfl rfl rfl (k' := 0)) rfl <| g0 (fa uu55 rfl zz53 rfl rfl rfl (k' := 9)) rfl <| g1 4 rfl (aS aa53 zz53 rfl rfl rfl (v := (vR (((gt l x10).iv).hi))) rfl) rfl <| g0 (bG kx rfl rfl (v := (vV (⟨((gt l x10).iv).lo, ((gt l x10).iv).hi, true, true⟩ : Iv))) rfl) rfl <| g0 (fa uu87 rfl zz69 rfl rfl rfl (k' := 20)) rfl <| g1 4 rfl (aS aa69 zz69 rfl rfl rfl (v := (vD ((gt l x10).f))) rfl) rfl <| g0 (bG i1 rfl rfl (v := (vUD (⟨(⟨((gt l x10).iv).lo, ((gt l x10).iv).hi, true, true⟩ : Iv), (gt l x10).f⟩ : U Qd))) rfl) rfl ?_; clear h ac wo; intro ac wo h
    refine nw h (cn (α := U Qd) (xs := [.tmp 38]) (vs := [(vUD (⟨(⟨((gt l x10).iv).lo, ((gt l x10).iv).hi, true, true⟩ : Iv), (gt l x10).f⟩ : U Qd))]) [(⟨(⟨((gt l x10).iv).lo, ((gt l x10).iv).hi, true, true⟩ : Iv), (gt l x10).f⟩ : U Qd)] er rfl rfl rfl (by decide)) rfl ?_; clear h ac wo; intro sv4 ac wo nnsv4 h
    refine on2 h 1 0 rfl rfl (d4 (xs := (out ++ [(⟨(⟨((gt l x10).iv).lo, ((gt l x10).iv).lo, false, false⟩ : Iv), (gt l x10).f⟩ : U Qd)])) (ys := [(⟨(⟨((gt l x10).iv).lo, ((gt l x10).iv).hi, true, true⟩ : Iv), (gt l x10).f⟩ : U Qd)]) er (fun w hs => (row_view hs 0 rfl)) rfl rfl (by first | omega | grind)) rfl ?_; clear h ac wo; intro sv5 ac wo apsv5 h
    refine st h 6 [sv5] rfl zz24 rfl rfl (jO (h.row_sl 0 rfl)) rfl (mX (h.row_sl 0 rfl)) rfl rfl <| gn hK15 <| gr fun K16 hK16 => g0 (fa uu87 rfl zz55 rfl rfl rfl (k' := 0)) rfl <| g0 (fa uu55 rfl zz4 rfl rfl rfl (k' := 19)) rfl <| g1 5 rfl (aS aa4 zz4 rfl rfl rfl (v := (.bool (((gt l x10).iv).openHi))) rfl) rfl <| g0 (dV rfl) rfl <| gn hK16 ?_; clear h ac wo; intro ac wo h
    replace h := h.sub (F' := [(3, (ptr b1 0)), (4, (.func (.func 170) #[] #[(ptr b1 0)])), (8, lv), (9, (.int .i64 ((l.length : Nat) : Int))), (10, (.int .i64 ((x10 : Nat) : Int))), (6, (ptr b2 0)), (44, (.bool (!((gt l x10).iv).openHi)))]) ⟨rfl, rfl, rfl, rfl, rfl, rfl, rfl, trivial⟩
    refine dg h rfl (fun hc4 => ?_) (fun hc4 => ?_)
    ·
     have hq4 := hc4; try simp at hq4
     refine gz h <| gR <| g0 (af rfl) rfl <| g0 (fa uu87 rfl zz55 rfl rfl rfl (k' := 0)) rfl <| g0 (fa uu55 rfl zz53 rfl rfl rfl (k' := 9)) rfl <| g1 5 rfl (aS aa53 zz53 rfl rfl rfl (v := (vR (((gt l x10).iv).hi))) rfl) rfl <| g0 (fa uu87 rfl zz69 rfl rfl rfl (k' := 20)) rfl <| g1 5 rfl (aS aa69 zz69 rfl rfl rfl (v := (vD ((gt l x10).f))) rfl) rfl ?_; clear h ac wo; intro ac wo h
     refine inl (vs := [(vR (((gt l x10).iv).hi)), (vD ((gt l x10).f)), (ptr b1 0)]) (M := 13) h (np (vs := [(vR (((gt l x10).iv).hi)), (vD ((gt l x10).f))]) (cap := [(ptr b1 0)]) cc170 rfl rfl) Tryz.func170 rfl rfl rfl ?_
     clear h ac; intro R2 hR2 ac h
     refine gz h <| gr fun K17 hK17 => gb (cR (((gt l x10).iv).hi)) rfl rfl rfl fun b5 => gb (cD ((gt l x10).f)) rfl rfl rfl fun b6 => gn hK17 <| gR <| g1 8 rfl (aS aa24 zz24 rfl rfl rfl (v := sv5) rfl) rfl <| g1 1 rfl (aS aa53 zz53 rfl rfl rfl (v := (vR (((gt l x10).iv).hi))) rfl) rfl <| g1 1 rfl (aS aa53 zz53 rfl rfl rfl (v := (vR (((gt l x10).iv).hi))) rfl) rfl <| g0 (bG kx rfl rfl (v := (vV (⟨((gt l x10).iv).hi, ((gt l x10).iv).hi, false, false⟩ : Iv))) rfl) rfl <| g1 0 rfl (aS aa69 zz69 rfl rfl rfl (v := (vD ((gt l x10).f))) rfl) rfl <| g0 (bG i1 rfl rfl (v := (vUD (⟨(⟨((gt l x10).iv).hi, ((gt l x10).iv).hi, false, false⟩ : Iv), (gt l x10).f⟩ : U Qd))) rfl) rfl ?_; clear h ac wo; intro ac wo h
     refine nw h (cn (α := U Qd) (xs := [.tmp 10]) (vs := [(vUD (⟨(⟨((gt l x10).iv).hi, ((gt l x10).iv).hi, false, false⟩ : Iv), (gt l x10).f⟩ : U Qd))]) [(⟨(⟨((gt l x10).iv).hi, ((gt l x10).iv).hi, false, false⟩ : Iv), (gt l x10).f⟩ : U Qd)] er rfl rfl rfl (by decide)) rfl ?_; clear h ac wo; intro sv6 ac wo nnsv6 h
     refine on2 h 3 0 rfl rfl (d4 (xs := ((out ++ [(⟨(⟨((gt l x10).iv).lo, ((gt l x10).iv).lo, false, false⟩ : Iv), (gt l x10).f⟩ : U Qd)]) ++ [(⟨(⟨((gt l x10).iv).lo, ((gt l x10).iv).hi, true, true⟩ : Iv), (gt l x10).f⟩ : U Qd)])) (ys := [(⟨(⟨((gt l x10).iv).hi, ((gt l x10).iv).hi, false, false⟩ : Iv), (gt l x10).f⟩ : U Qd)]) er (fun w hs => (row_view hs 0 rfl)) rfl rfl (by first | omega | grind)) rfl ?_; clear h ac wo; intro sv7 ac wo apsv7 h
     refine st h 9 [sv7] rfl zz24 rfl rfl (jO (h.row_sl 0 rfl)) rfl (mX (h.row_sl 0 rfl)) rfl rfl <| gx (fun _ _ => bo) ?_; clear h ac wo; intro ac wo h
     refine retN (rs := []) (vs := []) h rfl .nil rfl (hR2 _ _ _ h.bel h.sep ?_)
     clear h ac hR2; intro ac h
     refine gz h <| gx (fun _ _ => bo) <| gN <| gx hK8 <| gR <| g0 (bt rfl rfl (r := ((x10 + 1 : Nat) : Int)) (by rw [IntKind.wrap_i64]; first | omega | grind)) rfl <| g0 (af rfl) rfl <| gx (fun _ _ => bo) ?_; clear h ac wo; intro ac wo h
     exact aC ⟨m1, (by omega), _, _, _, (by first | omega | grind), bA hL1 (show cH l x10 out = .go _ from (Eq.trans (cT hc1) (Eq.trans (cT hc2) (Eq.trans (cF hc3) (cT hc4))))), (by first | omega | grind), (All.app (All.app (All.app zout (All.cons ⟨⟨((All.gt zl (bW _)).1).1, ((All.gt zl (bW _)).1).1⟩, (All.gt zl (bW _)).2⟩ All.nil)) (All.cons ⟨⟨((All.gt zl (bW _)).1).1, ((All.gt zl (bW _)).1).2⟩, (All.gt zl (bW _)).2⟩ All.nil)) (All.cons ⟨⟨((All.gt zl (bW _)).1).2, ((All.gt zl (bW _)).1).2⟩, (All.gt zl (bW _)).2⟩ All.nil)), (by first | omega | grind), (h.pick [0, 9] (by decide)).sub ⟨rfl, rfl, rfl, rfl, rfl, trivial⟩⟩
    ·
     have hq4 := hc4; try simp at hq4
     refine gz h <| gS <| gN <| gx hK8 <| gR <| g0 (bt rfl rfl (r := ((x10 + 1 : Nat) : Int)) (by rw [IntKind.wrap_i64]; first | omega | grind)) rfl <| g0 (af rfl) rfl <| gx (fun _ _ => bo) ?_; clear h ac wo; intro ac wo h
     exact aC ⟨m1, (by omega), _, _, _, (by first | omega | grind), bA hL1 (show cH l x10 out = .go _ from (Eq.trans (cT hc1) (Eq.trans (cT hc2) (Eq.trans (cF hc3) (cF hc4))))), (by first | omega | grind), (All.app (All.app zout (All.cons ⟨⟨((All.gt zl (bW _)).1).1, ((All.gt zl (bW _)).1).1⟩, (All.gt zl (bW _)).2⟩ All.nil)) (All.cons ⟨⟨((All.gt zl (bW _)).1).1, ((All.gt zl (bW _)).1).2⟩, (All.gt zl (bW _)).2⟩ All.nil)), (by first | omega | grind), (h.pick [0, 6] (by decide)).sub ⟨rfl, rfl, rfl, rfl, rfl, trivial⟩⟩
  ·
   have hq2 := hc2; try simp at hq2
   refine gz h <| gS <| gx hK10 <| gq fun K18 hK18 => gr fun K19 hK19 => g0 (fa uu87 rfl zz55 rfl rfl rfl (k' := 0)) rfl <| g1 0 rfl (aS aa55 zz55 rfl rfl rfl (v := (vV ((gt l x10).iv))) rfl) rfl <| gc (c8 Tryz.call83 rfl) (kk (d5 ((gt l x10).iv))) rfl <| gn hK19 ?_; clear h ac wo; intro ac wo h
   refine dg h rfl (fun hc5 => ?_) (fun hc5 => ?_)
   ·
    have hq5 := hc5; try simp at hq5
    refine gz h <| gE <| gx hK8 <| gR <| g0 (bt rfl rfl (r := ((x10 + 1 : Nat) : Int)) (by rw [IntKind.wrap_i64]; first | omega | grind)) rfl <| g0 (af rfl) rfl <| gx (fun _ _ => bo) ?_; clear h ac wo; intro ac wo h
    exact aC ⟨m1, (by omega), _, _, _, (by first | omega | grind), bA hL1 (show cH l x10 out = .go _ from (Eq.trans (cT hc1) (Eq.trans (cF hc2) (cT hc5)))), (by first | omega | grind), zout, (by first | omega | grind), (h.pick [1, 2] (by decide)).sub ⟨rfl, rfl, rfl, rfl, rfl, trivial⟩⟩
   ·
    have hq5 := hc5; try simp at hq5
    refine gz h <| gS <| gx hK18 <| gr fun K20 hK20 => g1 2 rfl (aS aa24 zz24 rfl rfl rfl (v := outv) rfl) rfl <| g0 (fa uu87 rfl zz55 rfl rfl rfl (k' := 0)) rfl <| g0 (fa uu55 rfl zz53 rfl rfl rfl (k' := 0)) rfl <| g1 0 rfl (aS aa53 zz53 rfl rfl rfl (v := (vR (((gt l x10).iv).lo))) rfl) rfl <| g0 (fa uu87 rfl zz55 rfl rfl rfl (k' := 0)) rfl <| g0 (fa uu55 rfl zz53 rfl rfl rfl (k' := 9)) rfl <| g1 0 rfl (aS aa53 zz53 rfl rfl rfl (v := (vR (((gt l x10).iv).hi))) rfl) rfl <| g0 (bG kx rfl rfl (v := (vV (⟨((gt l x10).iv).lo, ((gt l x10).iv).hi, true, true⟩ : Iv))) rfl) rfl <| g0 (fa uu87 rfl zz69 rfl rfl rfl (k' := 20)) rfl <| g1 0 rfl (aS aa69 zz69 rfl rfl rfl (v := (vD ((gt l x10).f))) rfl) rfl <| g0 (bG i1 rfl rfl (v := (vUD (⟨(⟨((gt l x10).iv).lo, ((gt l x10).iv).hi, true, true⟩ : Iv), (gt l x10).f⟩ : U Qd))) rfl) rfl ?_; clear h ac wo; intro ac wo h
    refine nw h (cn (α := U Qd) (xs := [.tmp 38]) (vs := [(vUD (⟨(⟨((gt l x10).iv).lo, ((gt l x10).iv).hi, true, true⟩ : Iv), (gt l x10).f⟩ : U Qd))]) [(⟨(⟨((gt l x10).iv).lo, ((gt l x10).iv).hi, true, true⟩ : Iv), (gt l x10).f⟩ : U Qd)] er rfl rfl rfl (by decide)) rfl ?_; clear h ac wo; intro sv8 ac wo nnsv8 h
    refine on2 h 2 0 rfl rfl (d4 (xs := out) (ys := [(⟨(⟨((gt l x10).iv).lo, ((gt l x10).iv).hi, true, true⟩ : Iv), (gt l x10).f⟩ : U Qd)]) er (fun w hs => (row_view hs 0 rfl)) rfl rfl (by first | omega | grind)) rfl ?_; clear h ac wo; intro sv9 ac wo apsv9 h
    refine st h 3 [sv9] rfl zz24 rfl rfl (jO (h.row_sl 0 rfl)) rfl (mX (h.row_sl 0 rfl)) rfl rfl <| gn hK20 ?_; clear h ac wo; intro ac wo h
    replace h := h.sub (F' := [(3, (ptr b1 0)), (4, (.func (.func 170) #[] #[(ptr b1 0)])), (8, lv), (9, (.int .i64 ((l.length : Nat) : Int))), (10, (.int .i64 ((x10 : Nat) : Int))), (6, (ptr b2 0))]) ⟨rfl, rfl, rfl, rfl, rfl, rfl, trivial⟩
    refine gz h <| gr fun K21 hK21 => g0 (fa uu87 rfl zz55 rfl rfl rfl (k' := 0)) rfl <| g0 (fa uu55 rfl zz4 rfl rfl rfl (k' := 19)) rfl <| g1 2 rfl (aS aa4 zz4 rfl rfl rfl (v := (.bool (((gt l x10).iv).openHi))) rfl) rfl <| g0 (dV rfl) rfl <| gn hK21 ?_; clear h ac wo; intro ac wo h
    refine dg h rfl (fun hc6 => ?_) (fun hc6 => ?_)
    ·
     have hq6 := hc6; try simp at hq6
     refine gz h <| gR <| g0 (af rfl) rfl <| g0 (fa uu87 rfl zz55 rfl rfl rfl (k' := 0)) rfl <| g0 (fa uu55 rfl zz53 rfl rfl rfl (k' := 9)) rfl <| g1 2 rfl (aS aa53 zz53 rfl rfl rfl (v := (vR (((gt l x10).iv).hi))) rfl) rfl <| g0 (fa uu87 rfl zz69 rfl rfl rfl (k' := 20)) rfl <| g1 2 rfl (aS aa69 zz69 rfl rfl rfl (v := (vD ((gt l x10).f))) rfl) rfl ?_; clear h ac wo; intro ac wo h
     refine inl (vs := [(vR (((gt l x10).iv).hi)), (vD ((gt l x10).f)), (ptr b1 0)]) (M := 13) h (np (vs := [(vR (((gt l x10).iv).hi)), (vD ((gt l x10).f))]) (cap := [(ptr b1 0)]) cc170 rfl rfl) Tryz.func170 rfl rfl rfl ?_
     clear h ac; intro R3 hR3 ac h
     refine gz h <| gr fun K22 hK22 => gb (cR (((gt l x10).iv).hi)) rfl rfl rfl fun b7 => gb (cD ((gt l x10).f)) rfl rfl rfl fun b8 => gn hK22 <| gR <| g1 5 rfl (aS aa24 zz24 rfl rfl rfl (v := sv9) rfl) rfl <| g1 1 rfl (aS aa53 zz53 rfl rfl rfl (v := (vR (((gt l x10).iv).hi))) rfl) rfl <| g1 1 rfl (aS aa53 zz53 rfl rfl rfl (v := (vR (((gt l x10).iv).hi))) rfl) rfl <| g0 (bG kx rfl rfl (v := (vV (⟨((gt l x10).iv).hi, ((gt l x10).iv).hi, false, false⟩ : Iv))) rfl) rfl <| g1 0 rfl (aS aa69 zz69 rfl rfl rfl (v := (vD ((gt l x10).f))) rfl) rfl <| g0 (bG i1 rfl rfl (v := (vUD (⟨(⟨((gt l x10).iv).hi, ((gt l x10).iv).hi, false, false⟩ : Iv), (gt l x10).f⟩ : U Qd))) rfl) rfl ?_; clear h ac wo; intro ac wo h
     refine nw h (cn (α := U Qd) (xs := [.tmp 10]) (vs := [(vUD (⟨(⟨((gt l x10).iv).hi, ((gt l x10).iv).hi, false, false⟩ : Iv), (gt l x10).f⟩ : U Qd))]) [(⟨(⟨((gt l x10).iv).hi, ((gt l x10).iv).hi, false, false⟩ : Iv), (gt l x10).f⟩ : U Qd)] er rfl rfl rfl (by decide)) rfl ?_; clear h ac wo; intro sv10 ac wo nnsv10 h
     refine on2 h 3 0 rfl rfl (d4 (xs := (out ++ [(⟨(⟨((gt l x10).iv).lo, ((gt l x10).iv).hi, true, true⟩ : Iv), (gt l x10).f⟩ : U Qd)])) (ys := [(⟨(⟨((gt l x10).iv).hi, ((gt l x10).iv).hi, false, false⟩ : Iv), (gt l x10).f⟩ : U Qd)]) er (fun w hs => (row_view hs 0 rfl)) rfl rfl (by first | omega | grind)) rfl ?_; clear h ac wo; intro sv11 ac wo apsv11 h
     refine st h 6 [sv11] rfl zz24 rfl rfl (jO (h.row_sl 0 rfl)) rfl (mX (h.row_sl 0 rfl)) rfl rfl <| gx (fun _ _ => bo) ?_; clear h ac wo; intro ac wo h
     refine retN (rs := []) (vs := []) h rfl .nil rfl (hR3 _ _ _ h.bel h.sep ?_)
     clear h ac hR3; intro ac h
     refine gz h <| gx (fun _ _ => bo) <| gN <| gx hK8 <| gR <| g0 (bt rfl rfl (r := ((x10 + 1 : Nat) : Int)) (by rw [IntKind.wrap_i64]; first | omega | grind)) rfl <| g0 (af rfl) rfl <| gx (fun _ _ => bo) ?_; clear h ac wo; intro ac wo h
     exact aC ⟨m1, (by omega), _, _, _, (by first | omega | grind), bA hL1 (show cH l x10 out = .go _ from (Eq.trans (cT hc1) (Eq.trans (cF hc2) (Eq.trans (cF hc5) (cT hc6))))), (by first | omega | grind), (All.app (All.app zout (All.cons ⟨⟨((All.gt zl (bW _)).1).1, ((All.gt zl (bW _)).1).2⟩, (All.gt zl (bW _)).2⟩ All.nil)) (All.cons ⟨⟨((All.gt zl (bW _)).1).2, ((All.gt zl (bW _)).1).2⟩, (All.gt zl (bW _)).2⟩ All.nil)), (by first | omega | grind), (h.pick [0, 6] (by decide)).sub ⟨rfl, rfl, rfl, rfl, rfl, trivial⟩⟩
    ·
     have hq6 := hc6; try simp at hq6
     refine gz h <| gS <| gN <| gx hK8 <| gR <| g0 (bt rfl rfl (r := ((x10 + 1 : Nat) : Int)) (by rw [IntKind.wrap_i64]; first | omega | grind)) rfl <| g0 (af rfl) rfl <| gx (fun _ _ => bo) ?_; clear h ac wo; intro ac wo h
     exact aC ⟨m1, (by omega), _, _, _, (by first | omega | grind), bA hL1 (show cH l x10 out = .go _ from (Eq.trans (cT hc1) (Eq.trans (cF hc2) (Eq.trans (cF hc5) (cF hc6))))), (by first | omega | grind), (All.app zout (All.cons ⟨⟨((All.gt zl (bW _)).1).1, ((All.gt zl (bW _)).1).2⟩, (All.gt zl (bW _)).2⟩ All.nil)), (by first | omega | grind), (h.pick [0, 3] (by decide)).sub ⟨rfl, rfl, rfl, rfl, rfl, trivial⟩⟩
 ·
  have hd1 := of_decide_eq_false hc1
  refine dK ?_
  have hx1 := dz hL1 (show cH l x10 out = .out (x10, out) from (cF hc1))
  refine gz h <| gx hK4 <| gr fun K23 hK23 => g1 1 rfl (aS aa24 zz24 rfl rfl rfl (v := outv) rfl) rfl <| g0 (ae rfl) rfl <| gn hK23 <| gT ?_; clear h ac wo; intro ac wo h
  have hd : ab l = out := (ew (hX1.trans hx1))
  exact ret h rfl (.tmp rfl .nil) rfl (by rw [hd]; exact h.retR 0 rfl ⟨zout, (by first | omega | grind)⟩)
attribute [irreducible] ab
def en (a : U Qd) (b : U Qd) : Int :=
 (lW ([(ao a.iv.lo b.iv.lo), (dG (aN a.iv) (aN b.iv)), (ao a.iv.hi b.iv.hi)]))
theorem iN (a : U Qd) (b : U Qd) (za : i3 30 a) (zb : i3 30 b) (w0 : World)  : Calls Tryz.prog 168 #[(vUD a), (vUD b)] w0 (eE w0 (.int .i64 (en a b)) (True)) := by
 refine enter (N := 31) (args := [(vUD a), (vUD b)]) Tryz.func168 rfl rfl ?_; intro ac h
 have p2 := ax ((aL a.iv.lo b.iv.lo 10 (by omega) za.1.1 zb.1.1) w0)
 refine d8 fun K1 hK1 => ?_
 refine bx h (cUD a) rfl rfl rfl fun b1 => gb (cUD b) rfl rfl rfl fun b2 => g0 (ae rfl) rfl <| gn hK1 <| gr fun K2 hK2 => g0 (ae rfl) rfl <| gn hK2 <| gq fun K3 hK3 => ?_; clear h ac; intro ac wo h
 have s3 := Calls.pr ((fun w_ hB_ hS_ => d9 a.iv za.1 w_ ) _ h.bel h.sep)
 have p4 := s3
 have s5 := Calls.pr ((fun w_ hB_ hS_ => d9 b.iv zb.1 w_ ) _ h.bel h.sep)
 have p6 := s5
 have p8 := ax ((iI (aN a.iv) (aN b.iv)) w0)
 have p10 := ax ((aL a.iv.hi b.iv.hi 10 (by omega) za.1.2 zb.1.2) w0)
 replace h := h.emps 1
 refine cb mixed [dv _, dv _, dw _ [1], dv _, dv _, dw _ [0], dv _, dv _, dv _, dw _ [1], dv _, dv _, dv _, dw _ [0], dv _, dv _, dv _, dv _, dw _ [1], dv _, dv _, dw _ [0], dv _, ⟨.nd (.one 23 fun v => NN v 3), [2]⟩, dw _ [2], dv _] [⟨_, []⟩, ⟨_, []⟩, ⟨.emp, [(23, .one 23 fun v => .row (α := Int) 3 v ([(ao a.iv.lo b.iv.lo), (dG (aN a.iv) (aN b.iv)), (ao a.iv.hi b.iv.hi)]))]⟩] h rfl (by kernel_rfl) ⟨fun _ _ => aq (fa uu87 rfl zz55 rfl rfl rfl (k' := 0)), fun _ _ => aq (fa uu55 rfl zz53 rfl rfl rfl (k' := 0)), fun _ _ => cp _ rfl rfl (aS aa53 zz53 rfl rfl rfl (v := (vR a.iv.lo)) rfl), fun _ _ => aq (fa uu87 rfl zz55 rfl rfl rfl (k' := 0)), fun _ _ => aq (fa uu55 rfl zz53 rfl rfl rfl (k' := 0)), fun _ _ => cp _ rfl rfl (aS aa53 zz53 rfl rfl rfl (v := (vR b.iv.lo)) rfl), fun _ _ => eg (ec (c8 Tryz.call115 rfl) (kk (aL a.iv.lo b.iv.lo 10 (by omega) za.1.1 zb.1.1))), fun _ _ => om rfl, fun _ _ => aq (fa uu87 rfl zz55 rfl rfl rfl (k' := 0)), fun _ _ => cp _ rfl rfl (aS aa55 zz55 rfl rfl rfl (v := (vV a.iv)) rfl), fun _ _ => eg (ec (np (cap := []) Tryz.call169 rfl rfl) (kk (d9 a.iv za.1))), fun _ _ => om rfl, fun _ _ => aq (fa uu87 rfl zz55 rfl rfl rfl (k' := 0)), fun _ _ => cp _ rfl rfl (aS aa55 zz55 rfl rfl rfl (v := (vV b.iv)) rfl), fun _ _ => eg (ec (np (cap := []) Tryz.call169 rfl rfl) (kk (d9 b.iv zb.1))), fun _ _ => eg (ec (c8 Tryz.call149 rfl) (kk (iI (aN a.iv) (aN b.iv)))), fun _ _ => aq (fa uu87 rfl zz55 rfl rfl rfl (k' := 0)), fun _ _ => aq (fa uu55 rfl zz53 rfl rfl rfl (k' := 9)), fun _ _ => cp _ rfl rfl (aS aa53 zz53 rfl rfl rfl (v := (vR a.iv.hi)) rfl), fun _ _ => aq (fa uu87 rfl zz55 rfl rfl rfl (k' := 0)), fun _ _ => aq (fa uu55 rfl zz53 rfl rfl rfl (k' := 9)), fun _ _ => cp _ rfl rfl (aS aa53 zz53 rfl rfl rfl (v := (vR b.iv.hi)) rfl), fun _ _ => eg (ec (c8 Tryz.call115 rfl) (kk (aL a.iv.hi b.iv.hi 10 (by omega) za.1.2 zb.1.2))), fun _ _ => iD (ψ := fun v => NN v 3) (B := fun v => [.row (α := Int) 3 v ([(ao a.iv.lo b.iv.lo), (dG (aN a.iv) (aN b.iv)), (ao a.iv.hi b.iv.hi)])]) [.emp] rfl (fun v _ => by simp only [dO, aX] <;> rfl) (fun v hv => by simpa [DF.one, aX] using hv) (gV (cn (α := Int) (xs := [.tmp 12, .tmp 21, .tmp 28]) (vs := [(.int .i64 (ao a.iv.lo b.iv.lo)), (.int .i64 (dG (aN a.iv) (aN b.iv))), (.int .i64 (ao a.iv.hi b.iv.hi))]) [(ao a.iv.lo b.iv.lo), (dG (aN a.iv) (aN b.iv)), (ao a.iv.hi b.iv.hi)] slt256 rfl rfl rfl (by decide))), fun ξ hφ => ff _ [.row (α := Int) 3 (ξ 23) ([(ao a.iv.lo b.iv.lo), (dG (aN a.iv) (aN b.iv)), (ao a.iv.hi b.iv.hi)])] rfl rfl (ec (c8 Tryz.call148 rfl) (fun w_ hB_ hS_ => qJ ([(ao a.iv.lo b.iv.lo), (dG (aN a.iv) (aN b.iv)), (ao a.iv.hi b.iv.hi)]) (ξ 23) w_ (row_view hS_ 0 rfl))), fun _ _ => aq (ae rfl), trivial⟩ ?_
 clear h ac wo; intro ξ ac wo hφ h
 replace h : St w0 31 [(4, (.int .i64 (lW ([(ao a.iv.lo b.iv.lo), (dG (aN a.iv) (aN b.iv)), (ao a.iv.hi b.iv.hi)]))))] [.blk b2 (cUD b) 87, .blk b1 (cUD a) 87] ac wo := (h.pick [0, 1] (by decide)).sub ⟨rfl, trivial⟩
 clear hφ ξ
 refine hK3 _ _ ?_
 refine e7 ?_
 exact ret h rfl (.tmp rfl .nil) rfl (h.retP (by unfold en; rfl) trivial)
attribute [irreducible] en
def fF (data : List (U Qd)) (a : Nat) (b : Nat) (i : Nat) (data1 : List (U Qd)) : List (U Qd) :=
 data1
def fE (data : List (U Qd)) (a : Nat) (b : Nat) (i : Nat) (data1 : List (U Qd)) (j : Nat) (data2 : List (U Qd)) : Nx (Nat × (List (U Qd))) (List (U Qd)) :=
 .go ((i + 1), data2)
def cx (data : List (U Qd)) (a : Nat) (b : Nat) (i : Nat) (data1 : List (U Qd)) (j : Nat) (data2 : List (U Qd)) : Nx (Nat × (List (U Qd))) (List (U Qd)) :=
 bif ((decide (((j : Nat) : Int) > ((a : Nat) : Int))) && (decide ((en (gt data2 j) (gt data2 (j - 1))) < 0))) then
  .go ((j - 1), ((data2.set j (gt data2 (j - 1))).set (j - 1) (gt data2 j)))
 else
  .out (j, data2)
def cz (data : List (U Qd)) (a : Nat) (b : Nat) (i : Nat) (data1 : List (U Qd)) : Nx (Nat × (List (U Qd))) (List (U Qd)) :=
 bif (decide (((i : Nat) : Int) < ((b : Nat) : Int))) then
  fin (bQ (fun s => cx data a b i data1 s.1 s.2) (i + 1) (i, data1)) (fun s => fE data a b i data1 s.1 s.2) (fun r => .ret r)
 else
  .out (i, data1)
def bC (data : List (U Qd)) (a : Nat) (b : Nat) : List (U Qd) :=
 fin (bQ (fun s => cz data a b s.1 s.2) ((b + 1 - (a + 1)) + 1) ((a + 1), data)) (fun s => fF data a b s.1 s.2) (fun r => r)
theorem fD (data : List (U Qd)) (datav : Value) (a : Nat) (b : Nat) (hab : a ≤ b) (hb : b ≤ data.length) (hb2 : b ≤ 1000) (zdata : All (i3 30) data) (w0 w : World) (B : Asn) (hbel : Below w0.heap.size w0 w) (hsep : ∃ Z_, Sep w0.heap.size w [.row (α := U Qd) 87 datav data, B] Z_)  : Calls Tryz.prog 222 #[datav, (.int .i64 ((a : Nat) : Int)), (.int .i64 ((b : Nat) : Int)), (.func (.func 168) #[] #[])] w (RetY w0 (fun v => v = .tuple #[] ∧ (All (i3 30) (bC data a b) ∧ (bC data a b).length = data.length)) (fun v => [.row (α := U Qd) 87 datav (bC data a b), B])) := by
 refine jA (N := 53) (args := [datav, (.int .i64 ((a : Nat) : Int)), (.int .i64 ((b : Nat) : Int)), (.func (.func 168) #[] #[])]) Tryz.func222 rfl rfl hbel hsep ?_; intro ac h
 have hlendata := h.len 0 rfl
 refine d8 fun K1 hK1 => ?_
 refine rd0 h (af rfl) rfl <| g0 (bt rfl rfl (r := ((a + 1 : Nat) : Int)) (by rw [IntKind.wrap_i64]; first | omega | grind)) rfl <| g0 (ae rfl) rfl <| gn hK1 <| gB ?_; clear h ac; intro ac wo h
 obtain ⟨X1, hX1⟩ : ∃ X, bQ (fun s => cz data a b s.1 s.2) ((b + 1 - (a + 1)) + 1) ((a + 1), data) = X := ⟨_, rfl⟩
 refine wp_loop_ghost (fun n_ a_ w_ => ∃ (i : Nat) (data1 : List (U Qd)), ((b + 1 - i) < n_) ∧ (bQ (fun s => cz data a b s.1 s.2) n_ (i, data1) = X1) ∧ (i ≤ b + 1) ∧ (All (i3 30) data1) ∧ (data1.length = data.length) ∧ St w0 53 [(0, datav), (1, (.int .i64 ((a : Nat) : Int))), (2, (.int .i64 ((b : Nat) : Int))), (3, (.func (.func 168) #[] #[])), (8, (.int .i64 ((i : Nat) : Int)))] [.row (α := U Qd) 87 datav data1, B] a_ w_) ((b + 1 - (a + 1)) + 1) ⟨(a + 1), data, (by omega), hX1, (by first | omega | grind), zdata, (by first | omega | grind), (h.sub ⟨rfl, rfl, rfl, rfl, rfl, trivial⟩)⟩ ?_
 clear h ac wo; rintro n1 ac wo ⟨i, data1, hm1, hL1, hi, zdata1, hdl, h⟩
 obtain ⟨m1, rfl⟩ : ∃ m, n1 = m + 1 := ⟨n1 - 1, by omega⟩
 refine gz h <| gq fun K2 hK2 => gr fun K3 hK3 => g0 (af rfl) rfl <| g0 (af rfl) rfl <| g0 (dk rfl rfl) rfl <| gn hK3 ?_; clear h ac wo; intro ac wo h
 refine dg h rfl (fun hc1 => ?_) (fun hc1 => ?_)
 ·
  have hd1 := of_decide_eq_true hc1
  refine gz h <| gS <| gx hK2 <| gq fun K4 hK4 => gB <| gr fun K5 hK5 => g0 (af rfl) rfl <| g0 (ae rfl) rfl <| gn hK5 <| gB ?_; clear h ac wo; intro ac wo h
  obtain ⟨X2, hX2⟩ : ∃ X, bQ (fun s => cx data a b i data1 s.1 s.2) (i + 1) (i, data1) = X := ⟨_, rfl⟩
  refine wp_loop_ghost (fun n_ a_ w_ => ∃ (j : Nat) (data2 : List (U Qd)), (j < n_) ∧ (bQ (fun s => cx data a b i data1 s.1 s.2) n_ (j, data2) = X2) ∧ (All (i3 30) data2) ∧ (j ≤ i) ∧ (data2.length = data.length) ∧ St w0 53 [(0, datav), (1, (.int .i64 ((a : Nat) : Int))), (2, (.int .i64 ((b : Nat) : Int))), (3, (.func (.func 168) #[] #[])), (8, (.int .i64 ((i : Nat) : Int))), (9, (.int .i64 ((j : Nat) : Int)))] [.row (α := U Qd) 87 datav data2, B] a_ w_) (i + 1) ⟨i, data1, (by omega), hX2, zdata1, (by first | omega | grind), (by first | omega | grind), (h.sub ⟨rfl, rfl, rfl, rfl, rfl, rfl, trivial⟩)⟩ ?_
  clear h ac wo; rintro n2 ac wo ⟨j, data2, hm2, hL2, zdata2, hj, hdl2, h⟩
  obtain ⟨m2, rfl⟩ : ∃ m, n2 = m + 1 := ⟨n2 - 1, by omega⟩
  refine di fun K6 hK6 => ?_
  refine di fun K7 hK7 => ?_
  refine cb mixed [dv _, dv _, dv _, dv _, dv _, dv _, dv _, dv _, dw _ [0], dv _, dv _, dv _, dv _, dw _ [0], dv _, dv _, dv _] [⟨_, []⟩, ⟨_, []⟩] h rfl (by kernel_rfl) ⟨fun _ _ => om rfl, fun _ _ => om rfl, fun _ _ => aq (iZ rfl rfl), fun _ _ => om rfl, fun _ _ => oh rfl rfl rfl rfl (fun hg => af rfl), fun _ _ => oh rfl rfl rfl rfl (fun hg => af rfl), fun _ _ => oh rfl rfl rfl rfl (fun hg => af rfl), fun _ _ => oh rfl rfl rfl rfl (fun hg => dh (i := j) uu24 zz87 (an rfl hg) (an rfl hg) (h.row_nn 0 rfl (by first | omega | (simp at hg; omega) | grind)) (by first | omega | (simp at hg; omega) | grind)), fun _ _ => oh rfl rfl rfl rfl (fun hg => dA (k := 0) aa87 zz87 (bi (by first | omega | (simp at hg; omega) | grind)) (an rfl hg) (Nat.add_zero _) rfl rfl (v := (vUD (gt data2 j))) rfl), fun _ _ => oh rfl rfl rfl rfl (fun hg => af rfl), fun _ _ => oh rfl rfl rfl rfl (fun hg => af rfl), fun _ _ => oh rfl rfl rfl rfl (fun hg => dB (an rfl hg) rfl (r := (((j - 1) : Nat) : Int)) (by rw [IntKind.wrap_i64]; first | omega | (simp at hg; omega) | grind)), fun _ _ => oh rfl rfl rfl rfl (fun hg => dh (i := (j - 1)) uu24 zz87 (an rfl hg) (an rfl hg) (h.row_nn 0 rfl (by first | omega | (simp at hg; omega) | grind)) (by first | omega | (simp at hg; omega) | grind)), fun _ _ => oh rfl rfl rfl rfl (fun hg => dA (k := 0) aa87 zz87 (bi (by first | omega | (simp at hg; omega) | grind)) (an rfl hg) (Nat.add_zero _) rfl rfl (v := (vUD (gt data2 (j - 1)))) rfl), fun _ _ => og1 rfl rfl rfl rfl (fun hg => ec (np (cap := []) Tryz.call168 (an rfl hg) (bu (an rfl hg) (bu (an rfl hg) rfl))) (kk (iN (gt data2 j) (gt data2 (j - 1)) (All.gt zdata2 (bW _)) (All.gt zdata2 (bW _))))), fun _ _ => oh rfl rfl rfl rfl (fun hg => dk (an rfl hg) rfl), fun _ _ => aq (de rfl (fun e => (an rfl e))), trivial⟩ ?_
  clear h ac wo; intro ξ ac wo hφ h
  replace h : St w0 53 [(0, datav), (1, (.int .i64 ((a : Nat) : Int))), (2, (.int .i64 ((b : Nat) : Int))), (3, (.func (.func 168) #[] #[])), (8, (.int .i64 ((i : Nat) : Int))), (9, (.int .i64 ((j : Nat) : Int))), (34, (.bool ((decide (((j : Nat) : Int) > ((a : Nat) : Int))) && (decide ((en (gt data2 j) (gt data2 (j - 1))) < 0)))))] [.row (α := U Qd) 87 datav data2, B] ac wo := (h.pick [0, 1] (by decide)).sub ⟨rfl, rfl, rfl, rfl, rfl, rfl, rfl, trivial⟩
  clear hφ ξ
  refine hK7 _ _ ?_
  refine dg h rfl (fun hc2 => ?_) (fun hc2 => ?_)
  ·
   have hq2 := hc2; try simp at hq2
   refine dI ?_
   refine hK6 _ _ ?_
   refine di fun K8 hK8 => ?_
   refine eX ?_
   refine cb mixed [dv _, dv _, dv _, dv _, dv _, dv _, dv _, dv _, dv _, dw _ [0], dv _, dv _, dv _, dw _ [0], dv _, dw _ [0], dv _, dw _ [0]] [⟨.row (α := U Qd) 87 datav data2, [(15, .con (.row (α := U Qd) 87 datav (data2.set j (gt data2 (j - 1))))), (17, .con (.row (α := U Qd) 87 datav ((data2.set j (gt data2 (j - 1))).set (j - 1) (gt data2 j))))]⟩, ⟨_, []⟩] h rfl (by kernel_rfl) ⟨fun _ _ => om rfl, fun _ _ => om rfl, fun _ _ => om rfl, fun _ _ => om rfl, fun _ _ => aq (dB rfl rfl (r := (((j - 1) : Nat) : Int)) (by rw [IntKind.wrap_i64]; first | omega | grind)), fun _ _ => om rfl, fun _ _ => om rfl, fun _ _ => aq (dB rfl rfl (r := (((j - 1) : Nat) : Int)) (by rw [IntKind.wrap_i64]; first | omega | grind)), fun _ _ => aq (dh (i := (j - 1)) uu24 zz87 rfl rfl (h.row_nn 0 rfl (by first | omega | grind)) (by first | omega | grind)), fun _ _ => cp _ rfl rfl (dA (k := 0) aa87 zz87 (bi (by first | omega | grind)) rfl (Nat.add_zero _) rfl rfl (v := (vUD (gt data2 (j - 1)))) rfl), fun _ _ => om rfl, fun _ _ => om rfl, fun _ _ => aq (dh (i := j) uu24 zz87 rfl rfl (h.row_nn 0 rfl (by first | omega | grind)) (by first | omega | grind)), fun _ _ => cp _ rfl rfl (dA (k := 0) aa87 zz87 (bi (by first | omega | grind)) rfl (Nat.add_zero _) rfl rfl (v := (vUD (gt data2 j))) rfl), fun _ _ => aq (dh (i := j) uu24 zz87 rfl rfl (h.row_nn 0 rfl (by first | omega | grind)) (by first | omega | grind)), fun _ _ => ff _ [.row (α := U Qd) 87 datav (data2.set j (gt data2 (j - 1)))] rfl rfl (fc (k := 0) (u' := (gt data2 (j - 1))) zz87 (bi (by first | omega | grind)) rfl (Nat.add_zero _) rfl rfl rfl rfl rfl rfl), fun _ _ => aq (dh (i := (j - 1)) uu24 zz87 rfl rfl (h.row_nn 0 rfl (by first | omega | grind)) (by first | omega | grind)), fun _ _ => ff _ [.row (α := U Qd) 87 datav ((data2.set j (gt data2 (j - 1))).set (j - 1) (gt data2 j))] rfl rfl (fc (k := 0) (u' := (gt data2 j)) zz87 (bi (by first | omega | grind)) rfl (Nat.add_zero _) rfl rfl rfl rfl rfl rfl), trivial⟩ ?_
   clear h ac wo; intro ξ ac wo hφ h
   replace h : St w0 53 [(0, datav), (1, (.int .i64 ((a : Nat) : Int))), (2, (.int .i64 ((b : Nat) : Int))), (3, (.func (.func 168) #[] #[])), (8, (.int .i64 ((i : Nat) : Int))), (9, (.int .i64 ((j : Nat) : Int)))] [.row (α := U Qd) 87 datav ((data2.set j (gt data2 (j - 1))).set (j - 1) (gt data2 j)), B] ac wo := (h.pick [0, 1] (by decide)).sub ⟨rfl, rfl, rfl, rfl, rfl, rfl, trivial⟩
   clear hφ ξ
   refine gz h <| gN <| gx hK8 <| gR <| g0 (af rfl) rfl <| g0 (dB rfl rfl (r := (((j - 1) : Nat) : Int)) (by rw [IntKind.wrap_i64]; first | omega | grind)) rfl <| g0 (ae rfl) rfl <| gx (fun _ _ => bo) ?_; clear h ac wo; intro ac wo h
   exact aC ⟨m2, (by omega), _, _, (by first | omega | grind), bA hL2 (show cx data a b i data1 j data2 = .go _ from (cT hc2)), (All.set (All.set zdata2 (All.gt zdata2 (bW _))) (All.gt zdata2 (bW _))), (by first | omega | grind), (by first | omega | grind), (h.pick [0, 1] (by decide)).sub ⟨rfl, rfl, rfl, rfl, rfl, rfl, trivial⟩⟩
  ·
   have hq2 := hc2; try simp at hq2
   refine dK ?_
   have hx2 := dz hL2 (show cx data a b i data1 j data2 = .out (j, data2) from (cF hc2))
   refine gz h <| gx hK4 <| gR <| g0 (af rfl) rfl <| g0 (bt rfl rfl (r := ((i + 1 : Nat) : Int)) (by rw [IntKind.wrap_i64]; first | omega | grind)) rfl <| g0 (ae rfl) rfl <| gx (fun _ _ => bo) ?_; clear h ac wo; intro ac wo h
   exact aC ⟨m1, (by omega), _, _, (by first | omega | grind), bA hL1 (show cz data a b i data1 = .go _ from (Eq.trans (cT hc1) (ew (hX2.trans hx2)))), (by first | omega | grind), zdata2, (by first | omega | grind), (h.pick [0, 1] (by decide)).sub ⟨rfl, rfl, rfl, rfl, rfl, trivial⟩⟩
 ·
  have hd1 := of_decide_eq_false hc1
  refine dK ?_
  have hx1 := dz hL1 (show cz data a b i data1 = .out (i, data1) from (cF hc1))
  have hd : bC data a b = data1 := (ew (hX1.trans hx1))
  exact retN (vs := []) h rfl .nil rfl ((h.pick [0, 1] (by decide)).retY ⟨rfl, (by rw [hd]; exact ⟨zdata1, (by first | omega | grind)⟩)⟩ (by rw [hd]; rfl))
attribute [irreducible] bC
def gQ (data : List (U Qd)) (n : Nat) (a : Nat) (b : Nat) (data1 : List (U Qd)) (blockSize : Nat) : List (U Qd) :=
 (bC data1 a n)
def dR (data : List (U Qd)) (n : Nat) (a : Nat) (b : Nat) (data1 : List (U Qd)) (blockSize : Nat) : Nx Nat (List (U Qd)) :=
 .out blockSize
def gU (data : List (U Qd)) (n : Nat) (a : Nat) (b : Nat) (data1 : List (U Qd)) : List (U Qd) :=
 fin (bQ (fun s => dR data n a b data1 s) (0 + 1) 20) (fun s => gQ data n a b data1 s) (fun r => r)
def dS (data : List (U Qd)) (n : Nat) (a : Nat) (b : Nat) (data1 : List (U Qd)) : Nx (Nat × Nat × (List (U Qd))) (List (U Qd)) :=
 .out (a, b, data1)
def cr (data : List (U Qd)) (n : Nat) : List (U Qd) :=
 fin (bQ (fun s => dS data n s.1 s.2.1 s.2.2) (0 + 1) (0, 20, data)) (fun s => gU data n s.1 s.2.1 s.2.2) (fun r => r)
theorem gP (data : List (U Qd)) (datav : Value) (n : Nat) (hn : n = data.length) (hl : data.length < 20) (zdata : All (i3 30) data) (w0 w : World) (B : Asn) (hbel : Below w0.heap.size w0 w) (hsep : ∃ Z_, Sep w0.heap.size w [.row (α := U Qd) 87 datav data, B] Z_)  : Calls Tryz.prog 195 #[datav, (.int .i64 ((n : Nat) : Int)), (.func (.func 168) #[] #[])] w (RetY w0 (fun v => v = .tuple #[] ∧ (All (i3 30) (cr data n) ∧ (cr data n).length = data.length)) (fun v => [.row (α := U Qd) 87 datav (cr data n), B])) := by
 refine jA (N := 63) (args := [datav, (.int .i64 ((n : Nat) : Int)), (.func (.func 168) #[] #[])]) Tryz.func195 rfl rfl hbel hsep ?_; intro ac h
 have hlendata := h.len 0 rfl
 refine d8 fun K1 hK1 => ?_
 refine rd0 h (ae rfl) rfl <| gn hK1 <| gr fun K2 hK2 => g0 (af rfl) rfl <| g0 (ae rfl) rfl <| g0 (ae rfl) rfl <| gn hK2 <| gq fun K3 hK3 => gB ?_; clear h ac; intro ac wo h
 obtain ⟨X1, hX1⟩ : ∃ X, bQ (fun s => dS data n s.1 s.2.1 s.2.2) (0 + 1) (0, 20, data) = X := ⟨_, rfl⟩
 refine wp_loop_ghost (fun n_ a_ w_ => ∃ (a : Nat) (b : Nat) (data1 : List (U Qd)), (0 < n_) ∧ (bQ (fun s => dS data n s.1 s.2.1 s.2.2) n_ (a, b, data1) = X1) ∧ (All (i3 30) data1) ∧ (a = 0) ∧ (b = 20) ∧ (data1.length = data.length) ∧ St w0 63 [(0, datav), (1, (.int .i64 ((n : Nat) : Int))), (2, (.func (.func 168) #[] #[])), (6, (.int .i64 20)), (7, (.int .i64 ((a : Nat) : Int))), (8, (.int .i64 ((b : Nat) : Int)))] [.row (α := U Qd) 87 datav data1, B] a_ w_) (0 + 1) ⟨0, 20, data, (by omega), hX1, zdata, (by first | omega | grind), (by first | omega | grind), (by first | omega | grind), (h.sub ⟨rfl, rfl, rfl, rfl, rfl, rfl, trivial⟩)⟩ ?_
 clear h ac wo; rintro n1 ac wo ⟨a, b, data1, hm1, hL1, zdata1, ha0, hb0, hdl, h⟩
 obtain ⟨m1, rfl⟩ : ∃ m, n1 = m + 1 := ⟨n1 - 1, by omega⟩
 refine gz h <| gq fun K4 hK4 => gr fun K5 hK5 => g0 (af rfl) rfl <| g0 (af rfl) rfl <| g0 (r_leq rfl rfl) rfl <| gn hK5 ?_; clear h ac wo; intro ac wo h
 refine mO h rfl ?_ (decide_eq_false (by omega))
 refine dK ?_
 have hx1 := dz hL1 (show dS data n a b data1 = .out (a, b, data1) from rfl)
 refine gz h <| gx hK3 <| gr fun K6 hK6 => g0 (af rfl) rfl <| g0 (af rfl) rfl <| g0 (af rfl) rfl <| g0 (af rfl) rfl ?_; clear h ac wo; intro ac wo h
 refine on1 h 0 rfl (kG (vs := [datav, (.int .i64 ((a : Nat) : Int)), (.int .i64 ((n : Nat) : Int)), (.func (.func 168) #[] #[])]) (A := fun v => [.row (α := U Qd) 87 datav (bC data1 a n)]) (c8 Tryz.call222 rfl) (fun w_ B_ hB_ hS_ => fD data1 datav a n (by first | omega | grind) (by first | omega | grind) (by first | omega | grind) zdata1 w0 w_ B_ hB_ hS_ )) rfl ?_; clear h ac wo; intro vc ac wo s2 h
 obtain rfl : vc = _ := s2.1
 have p3 := s2.2.2
 refine bo ?_
 refine hK6 _ _ ?_
 refine eX ?_
 obtain ⟨X2, hX2⟩ : ∃ X, bQ (fun s => dR data n a b data1 s) (0 + 1) 20 = X := ⟨_, rfl⟩
 refine wp_loop_ghost (fun n_ a_ w_ => ∃ (blockSize : Nat), (0 < n_) ∧ (bQ (fun s => dR data n a b data1 s) n_ blockSize = X2) ∧ (blockSize = 20) ∧ St w0 63 [(0, datav), (1, (.int .i64 ((n : Nat) : Int))), (2, (.func (.func 168) #[] #[])), (6, (.int .i64 ((blockSize : Nat) : Int)))] [.row (α := U Qd) 87 datav (bC data1 a n), B] a_ w_) (0 + 1) ⟨20, (by omega), hX2, (by first | omega | grind), (h.sub ⟨rfl, rfl, rfl, rfl, trivial⟩)⟩ ?_
 clear h ac wo; rintro n2 ac wo ⟨blockSize, hm2, hL2, hbs, h⟩
 obtain ⟨m2, rfl⟩ : ∃ m, n2 = m + 1 := ⟨n2 - 1, by omega⟩
 refine gz h <| gq fun K7 hK7 => gr fun K8 hK8 => g0 (af rfl) rfl <| g0 (af rfl) rfl <| g0 (dk rfl rfl) rfl <| gn hK8 ?_; clear h ac wo; intro ac wo h
 refine mO h rfl ?_ (decide_eq_false (by omega))
 refine dK ?_
 have hx2 := dz hL2 (show dR data n a b data1 blockSize = .out blockSize from rfl)
 have hd : cr data n = (bC data1 a n) := (Eq.trans (ew (hX1.trans hx1)) (ew (hX2.trans hx2)))
 exact retN (vs := []) h rfl .nil rfl ((h.pick [0, 1] (by decide)).retY ⟨rfl, (by rw [hd]; exact ⟨s2.2.1, (by first | omega | grind)⟩)⟩ (by rw [hd]; rfl))
attribute [irreducible] cr
def bm (x : List (U Qd)) : List (U Qd) :=
 (cr x x.length)
theorem eL (x : List (U Qd)) (xv : Value) (hl : x.length < 20) (zx : All (i3 30) x) (w0 w : World) (B : Asn) (hbel : Below w0.heap.size w0 w) (hsep : ∃ Z_, Sep w0.heap.size w [.row (α := U Qd) 87 xv x, B] Z_)  : Calls Tryz.prog 167 #[xv, (.func (.func 168) #[] #[])] w (RetY w0 (fun v => v = .tuple #[] ∧ (All (i3 30) (bm x) ∧ (bm x).length = x.length)) (fun v => [.row (α := U Qd) 87 xv (bm x), B])) := by
 refine jA (N := 9) (args := [xv, (.func (.func 168) #[] #[])]) Tryz.func167 rfl rfl hbel hsep ?_; intro ac h
 have hlenx := h.len 0 rfl
 refine c_r ?_
 refine rd0 h (af rfl) rfl <| g0 (af rfl) rfl ?_; clear h ac; intro ac wo h
 refine rd0 h (dp uu24 rfl (h.row_sl 0 rfl)) rfl <| g0 (af rfl) rfl ?_; clear h ac wo; intro ac wo h
 refine on1 h 0 rfl (kG (vs := [xv, (.int .i64 ((x.length : Nat) : Int)), (.func (.func 168) #[] #[])]) (A := fun v => [.row (α := U Qd) 87 xv (cr x x.length)]) (c8 Tryz.call195 rfl) (fun w_ B_ hB_ hS_ => gP x xv x.length (by first | omega | grind) (by first | omega | grind) zx w0 w_ B_ hB_ hS_ )) rfl ?_; clear h ac wo; intro vc ac wo s2 h
 obtain rfl : vc = _ := s2.1
 have p3 := s2.2.2
 refine bo ?_
 have hd : bm x = (cr x x.length) := rfl
 exact retN (vs := []) h rfl .nil rfl ((h.pick [0, 1] (by decide)).retY ⟨rfl, (by rw [hd]; exact ⟨s2.2.1, (by first | omega | grind)⟩)⟩ (by rw [hd]; rfl))
attribute [irreducible] bm
def aa (l : List (U Qd)) : (List (U Qd)) :=
 (bm (a8 l))
theorem gD (l : List (U Qd)) (lv : Value) (hl : l.length < 20) (zl : All (i3 30) l) (w0 : World) (hlv : View w0 lv l) : Calls Tryz.prog 105 #[lv] w0 (RetR w0 87 (aa l) (All (i3 30) (aa l) ∧ (aa l).length = l.length)) := by
 refine enter (N := 9) (args := [lv]) Tryz.func105 rfl rfl ?_; intro ac h
 have hlenl := hlv.len
 refine d8 fun K1 hK1 => ?_
 refine rd0 h (ae rfl) rfl <| gn hK1 <| gr fun K2 hK2 => g0 (af rfl) rfl ?_; clear h ac; intro ac wo h
 have s1 := RetR.pr ((fun w_ hB_ hS_ => em l lv (by first | omega | grind) zl w_ (hlv.below hB_)) _ h.bel h.sep)
 have p2 := s1.2
 have p2_0 := p2.1
 have p2_1 := p2.2
 refine j9 (xs := (a8 l)) h (c8 Tryz.call166 rfl) (fun w_ hB_ hS_ => em l lv (by first | omega | grind) zl w_ (hlv.below hB_)) rfl ?_; clear h ac wo; intro sv3 ac wo _ h
 refine rd0 h (ae rfl) rfl <| gn hK2 <| gr fun K3 hK3 => g0 (af rfl) rfl ?_; clear h ac wo; intro ac wo h
 refine on1 h 0 rfl (kG (vs := [sv3, (.func (.func 168) #[] #[])]) (A := fun v => [.row (α := U Qd) 87 sv3 (bm (a8 l))]) (c8 Tryz.call167 rfl) (fun w_ B_ hB_ hS_ => eL (a8 l) sv3 (by first | omega | grind) s1.1 w0 w_ B_ hB_ hS_ )) rfl ?_; clear h ac wo; intro vc ac wo s5 h
 obtain rfl : vc = _ := s5.1
 have p6 := s5.2.2
 refine gz h <| gn hK3 <| gr fun K4 hK4 => g0 (af rfl) rfl <| g0 (ae rfl) rfl <| gn hK4 <| gT ?_; clear h ac wo; intro ac wo h
 exact ret h rfl (.tmp rfl .nil) rfl (by unfold aa; exact h.retR 0 rfl ⟨s5.2.1, (by first | omega | grind)⟩)
attribute [irreducible] aa
end Go.Sx
