/- A part of the proof of piecesMoments. -/
import Derived.Test.YtbenbmdkhcfcfaaGreatDoorH1
set_option linter.unusedVariables false
set_option linter.unusedSimpArgs false
open Go.Proofs.Tryz renaming underlying50 → nn50, isAgg53 → aa53, sizeOf53 → zz53, isAgg71 → aa71, sizeOf71 → zz71, runUnderlying86 → uu86, sizeOf4 → zz4, isAgg4 → aa4, runUnderlying50 → uu50, sizeOf126 → zz126, runUnderlying126 → uu126, sizeOf86 → zz86, isAgg126 → aa126, call229 → cc229, isAgg50 → aa50, sizeOf50 → zz50, isAgg86 → aa86
open Go.IntKind renaming wrap_i64 → wI
namespace Go.Sx
open Go Go.RowKit Go.Proofs
set_option maxRecDepth 100000
set_option maxHeartbeats 40000000
attribute [local irreducible] aE bM ap aT aJ dF
theorem fz : SlT Tryz.prog 50 126 32 360 [.bool false, .string ⟨#[]⟩, .bool false, .string ⟨#[]⟩, .bool false, .string ⟨#[]⟩, .bool false, .string ⟨#[]⟩, .bool false, .bool false, .string ⟨#[]⟩, .bool false, .string ⟨#[]⟩, .bool false, .string ⟨#[]⟩, .bool false, .string ⟨#[]⟩, .bool false, .bool false, .bool false, .bool false, .string ⟨#[]⟩, .bool false, .string ⟨#[]⟩, .bool false, .string ⟨#[]⟩, .bool false, .string ⟨#[]⟩, .bool false, .string ⟨#[]⟩, .bool false, .string ⟨#[]⟩] := ⟨nn50, Tryz.t126, _, Tryz.type126, rfl, rfl, rfl, rfl, rfl, by decide, by decide⟩
def bL (f : Qd) (g : Qd) : Bool :=
 (decide (f = g))
theorem kC (f : Qd) (g : Qd) (zf : SzD 20 f) (zg : SzD 20 g) (w0 : World)  : Calls Tryz.prog 367 #[(.agg #[]), (vD f), (vD g)] w0 (RetP w0 (.bool (bL f g)) (True)) := by
 refine enter (N := 10) (args := [(.agg #[]), (vD f), (vD g)]) Tryz.func367 rfl rfl ?_; intro ac h
 refine ej fun K1 hK1 => ?_
 refine bx h [] rfl rfl rfl fun b1 => gb (cD f) rfl rfl rfl fun b2 => gb (cD g) rfl rfl rfl fun b3 => g0 (aj rfl) rfl <| gn hK1 <| gr fun K2 hK2 => g1 1 rfl (ba aa53 zz53 rfl rfl rfl (v := (vD f)) rfl) rfl <| g1 0 rfl (ba aa53 zz53 rfl rfl rfl (v := (vD g)) rfl) rfl <| g0 (il tK rfl rfl) rfl <| g0 (aj rfl) rfl <| gn hK2 <| gT ?_; clear h ac; intro ac wo h
 exact ret h rfl (.tmp rfl .nil) rfl (h.retP (by unfold bL; rfl) trivial)
attribute [irreducible] bL
def bc (f : Qd) (g : Qd) (t : GR) : Bool :=
 (eD f g t)
theorem gL (f : Qd) (g : Qd) (t : GR) (zf : SzD 20 f) (zg : SzD 20 g) (zt : SzR 30 t) (w0 : World)  : Calls Tryz.prog 369 #[(.agg #[]), (vD f), (vD g), (vR t)] w0 (RetP w0 (.bool (bc f g t)) (True)) := by
 refine enter (N := 13) (args := [(.agg #[]), (vD f), (vD g), (vR t)]) Tryz.func369 rfl rfl ?_; intro ac h
 refine ej fun K1 hK1 => ?_
 refine bx h [] rfl rfl rfl fun b1 => gb (cD f) rfl rfl rfl fun b2 => gb (cD g) rfl rfl rfl fun b3 => gb (cR t) rfl rfl rfl fun b4 => g0 (aj rfl) rfl <| gn hK1 <| gr fun K2 hK2 => g1 2 rfl (ba aa53 zz53 rfl rfl rfl (v := (vD f)) rfl) rfl <| g1 1 rfl (ba aa53 zz53 rfl rfl rfl (v := (vD g)) rfl) rfl <| g1 0 rfl (ba aa71 zz71 rfl rfl rfl (v := (vR t)) rfl) rfl <| gc (bF Tryz.call39 rfl) (kk (jM f g t 6 (by omega) zf zg (dg zt (by omega)))) rfl <| g0 (aj rfl) rfl <| gn hK2 <| gT ?_; clear h ac; intro ac wo h
 exact ret h rfl (.tmp rfl .nil) rfl (h.retP (by unfold bc; rfl) trivial)
attribute [irreducible] bc
def aV (f : Qd) (t : GR) : Qd :=
 (cj f t)
theorem iw (f : Qd) (t : GR) (zf : SzD 30 f) (zt : SzR 30 t) (w0 : World)  : Calls Tryz.prog 368 #[(.agg #[]), (vD f), (vR t)] w0 (RetP w0 (vD (aV f t)) (SzD 20 (aV f t))) := by
 refine enter (N := 10) (args := [(.agg #[]), (vD f), (vR t)]) Tryz.func368 rfl rfl ?_; intro ac h
 have c1 := g9 f t 20 (by omega) zf zt
 have s1 := aF (c1 w0)
 refine ej fun K1 hK1 => ?_
 refine bx h [] rfl rfl rfl fun b1 => gb (cD f) rfl rfl rfl fun b2 => gb (cR t) rfl rfl rfl fun b3 => ga (cD oD) Tryz.zeroValue53 rfl rfl fun b4 => gn hK1 <| gr fun K2 hK2 => g1 2 rfl (ba aa53 zz53 rfl rfl rfl (v := (vD f)) rfl) rfl <| g1 1 rfl (ba aa71 zz71 rfl rfl rfl (v := (vR t)) rfl) rfl <| gc (bF Tryz.call130 rfl) (kk c1) rfl <| gs 0 (cD (cj f t)) rfl zz53 rfl rfl rfl rfl rfl rfl rfl <| gn hK2 <| gT ?_; clear h ac; intro ac wo h
 exact ret h rfl (.cell (v := (vD (cj f t))) rfl (i := 0) rfl aa53 zz53 rfl rfl rfl .nil) rfl (h.retP (by unfold aV; rfl) (by unfold aV; exact s1))
attribute [irreducible] aV
def bo (s : List (U Qd)) : (List (U Qd)) := s
theorem ff (s : List (U Qd)) (sv : Value) (hl : s.length ≤ 1000) (zs : All (jI 30) s) (w0 : World) (hsv : View w0 sv s) : Calls Tryz.prog 223 #[sv] w0 (RetR w0 126 (bo s) (All (jI 30) (bo s) ∧ (bo s) = s ∧ (bo s).length = s.length)) := by
 refine enter (N := 8) (args := [sv]) Tryz.func223 rfl rfl ?_; intro ac h
 have hlens := hsv.len
 refine ej fun K1 hK1 => ?_
 refine rd0 h (aj rfl) rfl <| gn hK1 <| gq fun K2 hK2 => gr fun K3 hK3 => g0 (ak rfl) rfl <| g0 (r_eqlSN nn50 hsv.sl rfl) rfl <| gn hK3 ?_; clear h ac; intro ac wo h
 refine dA h rfl (fun hc1 => ?_) (fun hc1 => ?_)
 ·
  have hq1 := hc1; try simp at hq1
  refine gz h <| gr fun K4 hK4 => g0 (aj rfl) rfl <| gn hK4 <| gT ?_; clear h ac wo; intro ac wo h
  replace h := h.nilRow (α := U Qd) 126
  have hd : bo s = [] := (hsv.nil hc1).1
  exact ret h rfl (.tmp rfl .nil) rfl (by rw [hd]; exact h.retR 0 rfl ⟨All.nil, ⟨(hsv.nil hc1).1.symm, by rw [(hsv.nil hc1).1]⟩⟩)
 ·
  have hq1 := hc1; try simp at hq1
  refine eL ?_
  refine hK2 _ _ ?_
  refine ej fun K5 hK5 => ?_
  refine nw h (dq (α := U Qd) (xs := []) (vs := []) [] fz rfl rfl rfl (by decide)) rfl ?_; clear h ac wo; intro sv2 ac wo nnsv2 h
  refine rd0 h (ak rfl) rfl ?_; clear h ac wo; intro ac wo h
  refine on1 h 0 rfl (s_appV (xs := []) (ys := s) fz hsv rfl rfl (by first | omega | grind)) rfl ?_; clear h ac wo; intro sv3 ac wo apsv3 h
  refine rd0 h (aj rfl) rfl <| gn hK5 <| gT ?_; clear h ac wo; intro ac wo h
  exact ret h rfl (.tmp rfl .nil) rfl (by unfold bo; exact h.retR 0 rfl ⟨(All.app All.nil zs), ⟨rfl, rfl⟩⟩)
attribute [irreducible] bo
def aY (i : Iv) : Int :=
 bif i.openLo then
  1
 else
  0
theorem eR (i : Iv) (zi : SzV 30 i) (w0 : World)  : Calls Tryz.prog 226 #[(vV i)] w0 (RetP w0 (.int .i64 (aY i)) ((-1 ≤ (aY i) ∧ (aY i) ≤ 1))) := by
 refine enter (N := 5) (args := [(vV i)]) Tryz.func226 rfl rfl ?_; intro ac h
 refine ej fun K1 hK1 => ?_
 refine bx h (cV i) rfl rfl rfl fun b1 => g0 (aj rfl) rfl <| gn hK1 <| gq fun K2 hK2 => gr fun K3 hK3 => g0 (fa uu86 rfl zz4 rfl rfl rfl (k' := 18)) rfl <| g1 0 rfl (ba aa4 zz4 rfl rfl rfl (v := (.bool i.openLo)) rfl) rfl <| gn hK3 ?_; clear h ac; intro ac wo h
 refine dA h rfl (fun hc1 => ?_) (fun hc1 => ?_)
 ·
  have hq1 := hc1; try simp at hq1
  refine gz h <| gr fun K4 hK4 => g0 (aj rfl) rfl <| gn hK4 <| gT ?_; clear h ac wo; intro ac wo h
  have hd : aY i = 1 := (cT hc1)
  exact ret h rfl (.tmp rfl .nil) rfl (h.retP (by rw [hd] <;> rfl) (by rw [hd]; exact (by omega)))
 ·
  have hq1 := hc1; try simp at hq1
  refine gz h <| gS <| gx hK2 <| gr fun K5 hK5 => g0 (aj rfl) rfl <| gn hK5 <| gT ?_; clear h ac wo; intro ac wo h
  have hd : aY i = 0 := (cF hc1)
  exact ret h rfl (.tmp rfl .nil) rfl (h.retP (by rw [hd] <;> rfl) (by rw [hd]; exact (by omega)))
attribute [irreducible] aY
def eI (l : List (U Qd)) (t : GR) : Bool :=
 (((decide (((l.length : Nat) : Int) > 0)) && (decide (((gt l (l.length - 1)).iv).hi = t))) && (!((gt l (l.length - 1)).iv).openHi))
theorem jh (l : List (U Qd)) (lv : Value) (t : GR) (zl : All (jI 20) l) (zt : SzR 30 t) (w0 : World) (hlv : View w0 lv l) : Calls Tryz.prog 151 #[lv, (vR t)] w0 (RetP w0 (.bool (eI l t)) (True)) := by
 refine enter (N := 31) (args := [lv, (vR t)]) Tryz.func151 rfl rfl ?_; intro ac h
 have hlenl := hlv.len
 refine ej fun K1 hK1 => ?_
 refine bx h (cR t) rfl rfl rfl fun b1 => g0 (aj rfl) rfl <| gn hK1 <| gr fun K2 hK2 => g0 (ak rfl) rfl <| g0 (et uu50 rfl hlv.sl) rfl <| g0 (aj rfl) rfl <| gn hK2 <| gq fun K3 hK3 => ?_; clear h ac; intro ac wo h
 refine cZ mixed [dv _, dv _, dv _, dv _, dv _, dv _, dv _, dv _, dv _, dv _, dw _ [0], dv _, dv _, dv _, dv _, dv _, dv _, dv _, dv _, dv _, dv _, dv _, dv _, dv _] [⟨_, []⟩] h rfl (by kernel_rfl) ⟨fun _ _ => om rfl, fun _ _ => aL (ko rfl rfl), fun _ _ => om rfl, fun _ _ => oh rfl rfl rfl rfl (fun hg => ak rfl), fun _ _ => oh rfl rfl rfl rfl (fun hg => ak rfl), fun _ _ => oh rfl rfl rfl rfl (fun hg => eQ (aN rfl hg) rfl (r := (((l.length - 1) : Nat) : Int)) (by rw [wI]; first | omega | (simp at hg; omega) | grind)), fun _ _ => oh rfl rfl rfl rfl (fun hg => eC (i := (l.length - 1)) uu50 zz126 (aN rfl hg) (aN rfl hg) (hlv.nn (i := (l.length - 1)) (by first | omega | (simp at hg; omega) | grind)) (by first | omega | (simp at hg; omega) | grind)), fun _ _ => oh rfl rfl rfl rfl (fun hg => fs uu126 rfl zz86 rfl (hlv.nn (i := 0) (by first | omega | (simp at hg; omega) | grind)) (aN rfl hg) rfl (k' := (l.length - 1) * 32 + 0)), fun _ _ => oh rfl rfl rfl rfl (fun hg => fs uu86 rfl zz71 rfl (hlv.nn (i := 0) (by first | omega | (simp at hg; omega) | grind)) (aN rfl hg) (by first | rfl | (simp only [Nat.add_assoc] <;> rfl)) (k' := (l.length - 1) * 32 + 9)), fun _ _ => oh rfl rfl rfl rfl (fun hg => iR (k := 9) aa71 zz71 hlv (cK (by first | omega | (simp at hg; omega) | grind)) (aN rfl hg) rfl rfl rfl (v := (vR (((gt l (l.length - 1)).iv).hi))) rfl), fun _ _ => oh rfl rfl rfl rfl (fun hg => ba aa71 zz71 rfl rfl rfl (v := (vR t)) rfl), fun _ _ => oh rfl rfl rfl rfl (fun hg => il nk (aN rfl hg) (aN rfl hg)), fun _ _ => aL (fw rfl (fun e => (aN rfl e))), fun _ _ => om rfl, fun _ _ => oh rfl rfl rfl rfl (fun hg => ak rfl), fun _ _ => oh rfl rfl rfl rfl (fun hg => ak rfl), fun _ _ => oh rfl rfl rfl rfl (fun hg => eQ (aN rfl hg) rfl (r := (((l.length - 1) : Nat) : Int)) (by rw [wI]; first | omega | (simp at hg; omega) | grind)), fun _ _ => oh rfl rfl rfl rfl (fun hg => eC (i := (l.length - 1)) uu50 zz126 (aN rfl hg) (aN rfl hg) (hlv.nn (i := (l.length - 1)) (by first | omega | (simp at hg; omega) | grind)) (by first | omega | (simp at hg; omega) | grind)), fun _ _ => oh rfl rfl rfl rfl (fun hg => fs uu126 rfl zz86 rfl (hlv.nn (i := 0) (by first | omega | (simp at hg; omega) | grind)) (aN rfl hg) rfl (k' := (l.length - 1) * 32 + 0)), fun _ _ => oh rfl rfl rfl rfl (fun hg => fs uu86 rfl zz4 rfl (hlv.nn (i := 0) (by first | omega | (simp at hg; omega) | grind)) (aN rfl hg) (by first | rfl | (simp only [Nat.add_assoc] <;> rfl)) (k' := (l.length - 1) * 32 + 19)), fun _ _ => oh rfl rfl rfl rfl (fun hg => iR (k := 19) aa4 zz4 hlv (cK (by first | omega | (simp at hg; omega) | grind)) (aN rfl hg) rfl rfl rfl (v := (.bool (((gt l (l.length - 1)).iv).openHi))) rfl), fun _ _ => oh rfl rfl rfl rfl (fun hg => gG (aN rfl hg)), fun _ _ => aL (fw rfl (fun e => (aN rfl e))), fun _ _ => aL (aj rfl), trivial⟩ ?_
 clear h ac wo; intro ξ ac wo hφ h
 replace h : St w0 31 [(4, (.bool (((decide (((l.length : Nat) : Int) > 0)) && (decide (((gt l (l.length - 1)).iv).hi = t))) && (!((gt l (l.length - 1)).iv).openHi))))] [.blk b1 (cR t) 71] ac wo := (h.pick [0] (by decide)).sub ⟨rfl, trivial⟩
 clear hφ ξ
 refine hK3 _ _ ?_
 refine gu ?_
 exact ret h rfl (.tmp rfl .nil) rfl (h.retP (by unfold eI; rfl) trivial)
attribute [irreducible] eI
def gK (l : List (U Qd)) (x10 : Nat) (out : List (U Qd)) : (List (U Qd)) :=
 out
def bX (l : List (U Qd)) (x10 : Nat) (out : List (U Qd)) : Nx (Nat × (List (U Qd))) (List (U Qd)) :=
 bif (decide (((x10 : Nat) : Int) < ((l.length : Nat) : Int))) then
  bif (!((gt l x10).iv).openLo) then
   bif (aX ((gt l x10).iv)) then
    .go ((x10 + 1), (out ++ [(⟨(⟨((gt l x10).iv).lo, ((gt l x10).iv).lo, false, false⟩ : Iv), (gt l x10).f⟩ : U Qd)]))
   else
    bif (!((gt l x10).iv).openHi) then
     .go ((x10 + 1), (((out ++ [(⟨(⟨((gt l x10).iv).lo, ((gt l x10).iv).lo, false, false⟩ : Iv), (gt l x10).f⟩ : U Qd)]) ++ [(⟨(⟨((gt l x10).iv).lo, ((gt l x10).iv).hi, true, true⟩ : Iv), (gt l x10).f⟩ : U Qd)]) ++ [(⟨(⟨((gt l x10).iv).hi, ((gt l x10).iv).hi, false, false⟩ : Iv), (gt l x10).f⟩ : U Qd)]))
    else
     .go ((x10 + 1), ((out ++ [(⟨(⟨((gt l x10).iv).lo, ((gt l x10).iv).lo, false, false⟩ : Iv), (gt l x10).f⟩ : U Qd)]) ++ [(⟨(⟨((gt l x10).iv).lo, ((gt l x10).iv).hi, true, true⟩ : Iv), (gt l x10).f⟩ : U Qd)]))
  else
   bif (aX ((gt l x10).iv)) then
    .go ((x10 + 1), out)
   else
    bif (!((gt l x10).iv).openHi) then
     .go ((x10 + 1), ((out ++ [(⟨(⟨((gt l x10).iv).lo, ((gt l x10).iv).hi, true, true⟩ : Iv), (gt l x10).f⟩ : U Qd)]) ++ [(⟨(⟨((gt l x10).iv).hi, ((gt l x10).iv).hi, false, false⟩ : Iv), (gt l x10).f⟩ : U Qd)]))
    else
     .go ((x10 + 1), (out ++ [(⟨(⟨((gt l x10).iv).lo, ((gt l x10).iv).hi, true, true⟩ : Iv), (gt l x10).f⟩ : U Qd)]))
 else
  .out (x10, out)
def af (l : List (U Qd)) : (List (U Qd)) :=
 fin (bR (fun s => bX l s.1 s.2) ((l.length - 0) + 1) (0, [])) (fun s => gK l s.1 s.2) (fun r => r)
theorem iZ (l : List (U Qd)) (lv : Value) (hl : l.length ≤ 1000) (zl : All (jI 30) l) (w0 : World) (hlv : View w0 lv l) : Calls Tryz.prog 149 #[lv] w0 (RetR w0 126 (af l) (All (jI 30) (af l) ∧ (af l).length ≤ 3 * l.length)) := by
 refine enter (N := 54) (args := [lv]) Tryz.func149 rfl rfl ?_; intro ac h
 have hlenl := hlv.len
 refine ej fun K1 hK1 => ?_
 refine rd0 h (aj rfl) rfl <| gn hK1 <| gr fun K2 hK2 => ga [.slice none 0 0] Tryz.zeroValue50 rfl rfl fun b1 => gn hK2 <| gr fun K3 hK3 => g0 (nX rfl) rfl <| g0 (aj rfl) rfl <| gn hK3 <| gq fun K4 hK4 => gr fun K5 hK5 => g0 (ak rfl) rfl <| g0 (et uu50 rfl hlv.sl) rfl <| g0 (ak rfl) rfl <| gn hK5 <| gB ?_; clear h ac; intro ac wo h
 replace h := h.nilRow (α := U Qd) 126
 obtain ⟨X1, hX1⟩ : ∃ X, bR (fun s => bX l s.1 s.2) ((l.length - 0) + 1) (0, []) = X := ⟨_, rfl⟩
 refine wp_loop_ghost (fun n_ a_ w_ => ∃ (x10 : Nat) (out : List (U Qd)) (outv : Value), ((l.length - x10) < n_) ∧ (bR (fun s => bX l s.1 s.2) n_ (x10, out) = X1) ∧ (x10 ≤ l.length) ∧ (All (jI 30) out) ∧ (out.length ≤ 3 * x10) ∧ St w0 54 [(3, (ptr b1 0)), (4, (.func (.func 229) #[] #[(ptr b1 0)])), (8, lv), (9, (.int .i64 ((l.length : Nat) : Int))), (10, (.int .i64 ((x10 : Nat) : Int)))] [.row (α := U Qd) 126 outv out, .blk b1 [outv] 50] a_ w_) ((l.length - 0) + 1) ⟨0, [], (.slice none 0 0), (by omega), hX1, (by first | omega | grind), All.nil, (by first | omega | grind), (h.sub ⟨rfl, rfl, rfl, rfl, rfl, trivial⟩)⟩ ?_
 clear h ac wo; rintro n1 ac wo ⟨x10, out, outv, hm1, hL1, hx10, zout, hol, h⟩
 obtain ⟨m1, rfl⟩ : ∃ m, n1 = m + 1 := ⟨n1 - 1, by omega⟩
 refine gz h <| gr fun K6 hK6 => g0 (d5 rfl rfl) rfl <| gn hK6 <| gq fun K7 hK7 => ?_; clear h ac wo; intro ac wo h
 refine dA h rfl (fun hc1 => ?_) (fun hc1 => ?_)
 ·
  have hd1 := of_decide_eq_true hc1
  refine gz h <| gS <| gx hK7 <| gq fun K8 hK8 => gB <| gr fun K9 hK9 => g0 (eC (i := x10) uu50 zz126 rfl rfl (hlv.nn (i := x10) (by omega)) (by omega)) rfl <| g0 (iR (k := 0) aa126 zz126 hlv (cK (by omega)) rfl (Nat.add_zero _) rfl rfl (v := (vUD (gt l x10))) rfl) rfl <| ga (cUD (⟨(⟨(⟨oQ, oQ, false⟩ : GR), (⟨oQ, oQ, false⟩ : GR), false, false⟩ : Iv), oD⟩ : U Qd)) Tryz.zeroValue126 rfl rfl fun b2 => gs 0 (cUD (gt l x10)) rfl zz126 rfl rfl rfl rfl rfl rfl rfl <| gn hK9 <| gq fun K10 hK10 => gr fun K11 hK11 => g0 (fa uu126 rfl zz86 rfl rfl rfl (k' := 0)) rfl <| g0 (fa uu86 rfl zz4 rfl rfl rfl (k' := 18)) rfl <| g1 0 rfl (ba aa4 zz4 rfl rfl rfl (v := (.bool (((gt l x10).iv).openLo))) rfl) rfl <| g0 (gG rfl) rfl <| gn hK11 ?_; clear h ac wo; intro ac wo h
  refine dA h rfl (fun hc2 => ?_) (fun hc2 => ?_)
  ·
   have hq2 := hc2; try simp at hq2
   refine gz h <| gR <| g0 (ak rfl) rfl <| g0 (fa uu126 rfl zz86 rfl rfl rfl (k' := 0)) rfl <| g0 (fa uu86 rfl zz71 rfl rfl rfl (k' := 0)) rfl <| g1 0 rfl (ba aa71 zz71 rfl rfl rfl (v := (vR (((gt l x10).iv).lo))) rfl) rfl <| g0 (fa uu126 rfl zz53 rfl rfl rfl (k' := 20)) rfl <| g1 0 rfl (ba aa53 zz53 rfl rfl rfl (v := (vD ((gt l x10).f))) rfl) rfl ?_; clear h ac wo; intro ac wo h
   refine inl (vs := [(vR (((gt l x10).iv).lo)), (vD ((gt l x10).f)), (ptr b1 0)]) (M := 13) h (nl (vs := [(vR (((gt l x10).iv).lo)), (vD ((gt l x10).f))]) (cap := [(ptr b1 0)]) cc229 rfl rfl) Tryz.func229 rfl rfl rfl ?_
   clear h ac; intro R1 hR1 ac h
   refine gz h <| gr fun K12 hK12 => gb (cR (((gt l x10).iv).lo)) rfl rfl rfl fun b3 => gb (cD ((gt l x10).f)) rfl rfl rfl fun b4 => gn hK12 <| gR <| g1 4 rfl (ba aa50 zz50 rfl rfl rfl (v := outv) rfl) rfl <| g1 1 rfl (ba aa71 zz71 rfl rfl rfl (v := (vR (((gt l x10).iv).lo))) rfl) rfl <| g1 1 rfl (ba aa71 zz71 rfl rfl rfl (v := (vR (((gt l x10).iv).lo))) rfl) rfl <| g0 (cg pk rfl rfl (v := (vV (⟨((gt l x10).iv).lo, ((gt l x10).iv).lo, false, false⟩ : Iv))) rfl) rfl <| g1 0 rfl (ba aa53 zz53 rfl rfl rfl (v := (vD ((gt l x10).f))) rfl) rfl <| g0 (cg i0 rfl rfl (v := (vUD (⟨(⟨((gt l x10).iv).lo, ((gt l x10).iv).lo, false, false⟩ : Iv), (gt l x10).f⟩ : U Qd))) rfl) rfl ?_; clear h ac wo; intro ac wo h
   refine nw h (dq (α := U Qd) (xs := [.tmp 10]) (vs := [(vUD (⟨(⟨((gt l x10).iv).lo, ((gt l x10).iv).lo, false, false⟩ : Iv), (gt l x10).f⟩ : U Qd))]) [(⟨(⟨((gt l x10).iv).lo, ((gt l x10).iv).lo, false, false⟩ : Iv), (gt l x10).f⟩ : U Qd)] fz rfl rfl rfl (by decide)) rfl ?_; clear h ac wo; intro sv2 ac wo nnsv2 h
   refine on2 h 4 0 rfl rfl (fl (xs := out) (ys := [(⟨(⟨((gt l x10).iv).lo, ((gt l x10).iv).lo, false, false⟩ : Iv), (gt l x10).f⟩ : U Qd)]) fz (fun w hs => (row_view hs 0 rfl)) rfl rfl (by first | omega | grind)) rfl ?_; clear h ac wo; intro sv3 ac wo apsv3 h
   refine st h 5 [sv3] rfl zz50 rfl rfl (lw (h.row_sl 0 rfl)) rfl (pC (h.row_sl 0 rfl)) rfl rfl <| gx (fun _ _ => bV) ?_; clear h ac wo; intro ac wo h
   refine retN (rs := []) (vs := []) h rfl .nil rfl (hR1 _ _ _ h.bel h.sep ?_)
   clear h ac hR1; intro ac h
   refine gz h <| gn hK10 <| gq fun K13 hK13 => gr fun K14 hK14 => g0 (fa uu126 rfl zz86 rfl rfl rfl (k' := 0)) rfl <| g1 4 rfl (ba aa86 zz86 rfl rfl rfl (v := (vV ((gt l x10).iv))) rfl) rfl <| gc (bF Tryz.call150 rfl) (kk (eM ((gt l x10).iv))) rfl <| gn hK14 ?_; clear h ac wo; intro ac wo h
   replace h := h.sub (F' := [(3, (ptr b1 0)), (4, (.func (.func 229) #[] #[(ptr b1 0)])), (8, lv), (9, (.int .i64 ((l.length : Nat) : Int))), (10, (.int .i64 ((x10 : Nat) : Int))), (6, (ptr b2 0)), (27, (.bool (aX ((gt l x10).iv))))]) ⟨rfl, rfl, rfl, rfl, rfl, rfl, rfl, trivial⟩
   refine dA h rfl (fun hc3 => ?_) (fun hc3 => ?_)
   ·
    have hq3 := hc3; try simp at hq3
    refine gz h <| gE <| gx hK8 <| gR <| g0 (ch rfl rfl (r := ((x10 + 1 : Nat) : Int)) (by rw [wI]; omega)) rfl <| g0 (ak rfl) rfl <| gx (fun _ _ => bV) ?_; clear h ac wo; intro ac wo h
    exact aU ⟨m1, (by omega), _, _, _, (by first | omega | grind), co hL1 (show bX l x10 out = .go _ from (Eq.trans (cT hc1) (Eq.trans (cT hc2) (cT hc3)))), (by first | omega | grind), (All.app zout (All.cons ⟨⟨((All.gt zl (cG _)).1).1, ((All.gt zl (cG _)).1).1⟩, (All.gt zl (cG _)).2⟩ All.nil)), (by first | omega | grind), (h.pick [0, 5] (by decide)).sub ⟨rfl, rfl, rfl, rfl, rfl, trivial⟩⟩
   ·
    have hq3 := hc3; try simp at hq3
    refine gz h <| gS <| gx hK13 <| gr fun K15 hK15 => g1 5 rfl (ba aa50 zz50 rfl rfl rfl (v := sv3) rfl) rfl <| g0 (fa uu126 rfl zz86 rfl rfl rfl (k' := 0)) rfl <| g0 (fa uu86 rfl zz71 rfl rfl rfl (k' := 0)) rfl <| g1 4 rfl (ba aa71 zz71 rfl rfl rfl (v := (vR (((gt l x10).iv).lo))) rfl) rfl <| g0 (fa uu126 rfl zz86 rfl rfl rfl (k' := 0)) rfl <| g0 (fa uu86 rfl zz71 rfl rfl rfl (k' := 9)) rfl <| g1 4 rfl (ba aa71 zz71 rfl rfl rfl (v := (vR (((gt l x10).iv).hi))) rfl) rfl <| g0 (cg pk rfl rfl (v := (vV (⟨((gt l x10).iv).lo, ((gt l x10).iv).hi, true, true⟩ : Iv))) rfl) rfl <| g0 (fa uu126 rfl zz53 rfl rfl rfl (k' := 20)) rfl <| g1 4 rfl (ba aa53 zz53 rfl rfl rfl (v := (vD ((gt l x10).f))) rfl) rfl <| g0 (cg i0 rfl rfl (v := (vUD (⟨(⟨((gt l x10).iv).lo, ((gt l x10).iv).hi, true, true⟩ : Iv), (gt l x10).f⟩ : U Qd))) rfl) rfl ?_; clear h ac wo; intro ac wo h
    refine nw h (dq (α := U Qd) (xs := [.tmp 38]) (vs := [(vUD (⟨(⟨((gt l x10).iv).lo, ((gt l x10).iv).hi, true, true⟩ : Iv), (gt l x10).f⟩ : U Qd))]) [(⟨(⟨((gt l x10).iv).lo, ((gt l x10).iv).hi, true, true⟩ : Iv), (gt l x10).f⟩ : U Qd)] fz rfl rfl rfl (by decide)) rfl ?_; clear h ac wo; intro sv4 ac wo nnsv4 h
    refine on2 h 1 0 rfl rfl (fl (xs := (out ++ [(⟨(⟨((gt l x10).iv).lo, ((gt l x10).iv).lo, false, false⟩ : Iv), (gt l x10).f⟩ : U Qd)])) (ys := [(⟨(⟨((gt l x10).iv).lo, ((gt l x10).iv).hi, true, true⟩ : Iv), (gt l x10).f⟩ : U Qd)]) fz (fun w hs => (row_view hs 0 rfl)) rfl rfl (by first | omega | grind)) rfl ?_; clear h ac wo; intro sv5 ac wo apsv5 h
    refine st h 6 [sv5] rfl zz50 rfl rfl (lw (h.row_sl 0 rfl)) rfl (pC (h.row_sl 0 rfl)) rfl rfl <| gn hK15 <| gr fun K16 hK16 => g0 (fa uu126 rfl zz86 rfl rfl rfl (k' := 0)) rfl <| g0 (fa uu86 rfl zz4 rfl rfl rfl (k' := 19)) rfl <| g1 5 rfl (ba aa4 zz4 rfl rfl rfl (v := (.bool (((gt l x10).iv).openHi))) rfl) rfl <| g0 (gG rfl) rfl <| gn hK16 ?_; clear h ac wo; intro ac wo h
    replace h := h.sub (F' := [(3, (ptr b1 0)), (4, (.func (.func 229) #[] #[(ptr b1 0)])), (8, lv), (9, (.int .i64 ((l.length : Nat) : Int))), (10, (.int .i64 ((x10 : Nat) : Int))), (6, (ptr b2 0)), (44, (.bool (!((gt l x10).iv).openHi)))]) ⟨rfl, rfl, rfl, rfl, rfl, rfl, rfl, trivial⟩
    refine dA h rfl (fun hc4 => ?_) (fun hc4 => ?_)
    ·
     have hq4 := hc4; try simp at hq4
     refine gz h <| gR <| g0 (ak rfl) rfl <| g0 (fa uu126 rfl zz86 rfl rfl rfl (k' := 0)) rfl <| g0 (fa uu86 rfl zz71 rfl rfl rfl (k' := 9)) rfl <| g1 5 rfl (ba aa71 zz71 rfl rfl rfl (v := (vR (((gt l x10).iv).hi))) rfl) rfl <| g0 (fa uu126 rfl zz53 rfl rfl rfl (k' := 20)) rfl <| g1 5 rfl (ba aa53 zz53 rfl rfl rfl (v := (vD ((gt l x10).f))) rfl) rfl ?_; clear h ac wo; intro ac wo h
     refine inl (vs := [(vR (((gt l x10).iv).hi)), (vD ((gt l x10).f)), (ptr b1 0)]) (M := 13) h (nl (vs := [(vR (((gt l x10).iv).hi)), (vD ((gt l x10).f))]) (cap := [(ptr b1 0)]) cc229 rfl rfl) Tryz.func229 rfl rfl rfl ?_
     clear h ac; intro R2 hR2 ac h
     refine gz h <| gr fun K17 hK17 => gb (cR (((gt l x10).iv).hi)) rfl rfl rfl fun b5 => gb (cD ((gt l x10).f)) rfl rfl rfl fun b6 => gn hK17 <| gR <| g1 8 rfl (ba aa50 zz50 rfl rfl rfl (v := sv5) rfl) rfl <| g1 1 rfl (ba aa71 zz71 rfl rfl rfl (v := (vR (((gt l x10).iv).hi))) rfl) rfl <| g1 1 rfl (ba aa71 zz71 rfl rfl rfl (v := (vR (((gt l x10).iv).hi))) rfl) rfl <| g0 (cg pk rfl rfl (v := (vV (⟨((gt l x10).iv).hi, ((gt l x10).iv).hi, false, false⟩ : Iv))) rfl) rfl <| g1 0 rfl (ba aa53 zz53 rfl rfl rfl (v := (vD ((gt l x10).f))) rfl) rfl <| g0 (cg i0 rfl rfl (v := (vUD (⟨(⟨((gt l x10).iv).hi, ((gt l x10).iv).hi, false, false⟩ : Iv), (gt l x10).f⟩ : U Qd))) rfl) rfl ?_; clear h ac wo; intro ac wo h
     refine nw h (dq (α := U Qd) (xs := [.tmp 10]) (vs := [(vUD (⟨(⟨((gt l x10).iv).hi, ((gt l x10).iv).hi, false, false⟩ : Iv), (gt l x10).f⟩ : U Qd))]) [(⟨(⟨((gt l x10).iv).hi, ((gt l x10).iv).hi, false, false⟩ : Iv), (gt l x10).f⟩ : U Qd)] fz rfl rfl rfl (by decide)) rfl ?_; clear h ac wo; intro sv6 ac wo nnsv6 h
     refine on2 h 3 0 rfl rfl (fl (xs := ((out ++ [(⟨(⟨((gt l x10).iv).lo, ((gt l x10).iv).lo, false, false⟩ : Iv), (gt l x10).f⟩ : U Qd)]) ++ [(⟨(⟨((gt l x10).iv).lo, ((gt l x10).iv).hi, true, true⟩ : Iv), (gt l x10).f⟩ : U Qd)])) (ys := [(⟨(⟨((gt l x10).iv).hi, ((gt l x10).iv).hi, false, false⟩ : Iv), (gt l x10).f⟩ : U Qd)]) fz (fun w hs => (row_view hs 0 rfl)) rfl rfl (by first | omega | grind)) rfl ?_; clear h ac wo; intro sv7 ac wo apsv7 h
     refine st h 9 [sv7] rfl zz50 rfl rfl (lw (h.row_sl 0 rfl)) rfl (pC (h.row_sl 0 rfl)) rfl rfl <| gx (fun _ _ => bV) ?_; clear h ac wo; intro ac wo h
     refine retN (rs := []) (vs := []) h rfl .nil rfl (hR2 _ _ _ h.bel h.sep ?_)
     clear h ac hR2; intro ac h
     refine gz h <| gx (fun _ _ => bV) <| gN <| gx hK8 <| gR <| g0 (ch rfl rfl (r := ((x10 + 1 : Nat) : Int)) (by rw [wI]; omega)) rfl <| g0 (ak rfl) rfl <| gx (fun _ _ => bV) ?_; clear h ac wo; intro ac wo h
     exact aU ⟨m1, (by omega), _, _, _, (by first | omega | grind), co hL1 (show bX l x10 out = .go _ from (Eq.trans (cT hc1) (Eq.trans (cT hc2) (Eq.trans (cF hc3) (cT hc4))))), (by first | omega | grind), (All.app (All.app (All.app zout (All.cons ⟨⟨((All.gt zl (cG _)).1).1, ((All.gt zl (cG _)).1).1⟩, (All.gt zl (cG _)).2⟩ All.nil)) (All.cons ⟨⟨((All.gt zl (cG _)).1).1, ((All.gt zl (cG _)).1).2⟩, (All.gt zl (cG _)).2⟩ All.nil)) (All.cons ⟨⟨((All.gt zl (cG _)).1).2, ((All.gt zl (cG _)).1).2⟩, (All.gt zl (cG _)).2⟩ All.nil)), (by first | omega | grind), (h.pick [0, 9] (by decide)).sub ⟨rfl, rfl, rfl, rfl, rfl, trivial⟩⟩
    ·
     have hq4 := hc4; try simp at hq4
     refine gz h <| gS <| gN <| gx hK8 <| gR <| g0 (ch rfl rfl (r := ((x10 + 1 : Nat) : Int)) (by rw [wI]; omega)) rfl <| g0 (ak rfl) rfl <| gx (fun _ _ => bV) ?_; clear h ac wo; intro ac wo h
     exact aU ⟨m1, (by omega), _, _, _, (by first | omega | grind), co hL1 (show bX l x10 out = .go _ from (Eq.trans (cT hc1) (Eq.trans (cT hc2) (Eq.trans (cF hc3) (cF hc4))))), (by first | omega | grind), (All.app (All.app zout (All.cons ⟨⟨((All.gt zl (cG _)).1).1, ((All.gt zl (cG _)).1).1⟩, (All.gt zl (cG _)).2⟩ All.nil)) (All.cons ⟨⟨((All.gt zl (cG _)).1).1, ((All.gt zl (cG _)).1).2⟩, (All.gt zl (cG _)).2⟩ All.nil)), (by first | omega | grind), (h.pick [0, 6] (by decide)).sub ⟨rfl, rfl, rfl, rfl, rfl, trivial⟩⟩
  ·
   have hq2 := hc2; try simp at hq2
   refine gz h <| gS <| gx hK10 <| gq fun K18 hK18 => gr fun K19 hK19 => g0 (fa uu126 rfl zz86 rfl rfl rfl (k' := 0)) rfl <| g1 0 rfl (ba aa86 zz86 rfl rfl rfl (v := (vV ((gt l x10).iv))) rfl) rfl <| gc (bF Tryz.call150 rfl) (kk (eM ((gt l x10).iv))) rfl <| gn hK19 ?_; clear h ac wo; intro ac wo h
   refine dA h rfl (fun hc5 => ?_) (fun hc5 => ?_)
   ·
    have hq5 := hc5; try simp at hq5
    refine gz h <| gE <| gx hK8 <| gR <| g0 (ch rfl rfl (r := ((x10 + 1 : Nat) : Int)) (by rw [wI]; omega)) rfl <| g0 (ak rfl) rfl <| gx (fun _ _ => bV) ?_; clear h ac wo; intro ac wo h
    exact aU ⟨m1, (by omega), _, _, _, (by omega), co hL1 (show bX l x10 out = .go _ from (Eq.trans (cT hc1) (Eq.trans (cF hc2) (cT hc5)))), (by omega), zout, (by omega), (h.pick [1, 2] (by decide)).sub ⟨rfl, rfl, rfl, rfl, rfl, trivial⟩⟩
   ·
    have hq5 := hc5; try simp at hq5
    refine gz h <| gS <| gx hK18 <| gr fun K20 hK20 => g1 2 rfl (ba aa50 zz50 rfl rfl rfl (v := outv) rfl) rfl <| g0 (fa uu126 rfl zz86 rfl rfl rfl (k' := 0)) rfl <| g0 (fa uu86 rfl zz71 rfl rfl rfl (k' := 0)) rfl <| g1 0 rfl (ba aa71 zz71 rfl rfl rfl (v := (vR (((gt l x10).iv).lo))) rfl) rfl <| g0 (fa uu126 rfl zz86 rfl rfl rfl (k' := 0)) rfl <| g0 (fa uu86 rfl zz71 rfl rfl rfl (k' := 9)) rfl <| g1 0 rfl (ba aa71 zz71 rfl rfl rfl (v := (vR (((gt l x10).iv).hi))) rfl) rfl <| g0 (cg pk rfl rfl (v := (vV (⟨((gt l x10).iv).lo, ((gt l x10).iv).hi, true, true⟩ : Iv))) rfl) rfl <| g0 (fa uu126 rfl zz53 rfl rfl rfl (k' := 20)) rfl <| g1 0 rfl (ba aa53 zz53 rfl rfl rfl (v := (vD ((gt l x10).f))) rfl) rfl <| g0 (cg i0 rfl rfl (v := (vUD (⟨(⟨((gt l x10).iv).lo, ((gt l x10).iv).hi, true, true⟩ : Iv), (gt l x10).f⟩ : U Qd))) rfl) rfl ?_; clear h ac wo; intro ac wo h
    refine nw h (dq (α := U Qd) (xs := [.tmp 38]) (vs := [(vUD (⟨(⟨((gt l x10).iv).lo, ((gt l x10).iv).hi, true, true⟩ : Iv), (gt l x10).f⟩ : U Qd))]) [(⟨(⟨((gt l x10).iv).lo, ((gt l x10).iv).hi, true, true⟩ : Iv), (gt l x10).f⟩ : U Qd)] fz rfl rfl rfl (by decide)) rfl ?_; clear h ac wo; intro sv8 ac wo nnsv8 h
    refine on2 h 2 0 rfl rfl (fl (xs := out) (ys := [(⟨(⟨((gt l x10).iv).lo, ((gt l x10).iv).hi, true, true⟩ : Iv), (gt l x10).f⟩ : U Qd)]) fz (fun w hs => (row_view hs 0 rfl)) rfl rfl (by first | omega | grind)) rfl ?_; clear h ac wo; intro sv9 ac wo apsv9 h
    refine st h 3 [sv9] rfl zz50 rfl rfl (lw (h.row_sl 0 rfl)) rfl (pC (h.row_sl 0 rfl)) rfl rfl <| gn hK20 ?_; clear h ac wo; intro ac wo h
    replace h := h.sub (F' := [(3, (ptr b1 0)), (4, (.func (.func 229) #[] #[(ptr b1 0)])), (8, lv), (9, (.int .i64 ((l.length : Nat) : Int))), (10, (.int .i64 ((x10 : Nat) : Int))), (6, (ptr b2 0))]) ⟨rfl, rfl, rfl, rfl, rfl, rfl, trivial⟩
    refine gz h <| gr fun K21 hK21 => g0 (fa uu126 rfl zz86 rfl rfl rfl (k' := 0)) rfl <| g0 (fa uu86 rfl zz4 rfl rfl rfl (k' := 19)) rfl <| g1 2 rfl (ba aa4 zz4 rfl rfl rfl (v := (.bool (((gt l x10).iv).openHi))) rfl) rfl <| g0 (gG rfl) rfl <| gn hK21 ?_; clear h ac wo; intro ac wo h
    refine dA h rfl (fun hc6 => ?_) (fun hc6 => ?_)
    ·
     have hq6 := hc6; try simp at hq6
     refine gz h <| gR <| g0 (ak rfl) rfl <| g0 (fa uu126 rfl zz86 rfl rfl rfl (k' := 0)) rfl <| g0 (fa uu86 rfl zz71 rfl rfl rfl (k' := 9)) rfl <| g1 2 rfl (ba aa71 zz71 rfl rfl rfl (v := (vR (((gt l x10).iv).hi))) rfl) rfl <| g0 (fa uu126 rfl zz53 rfl rfl rfl (k' := 20)) rfl <| g1 2 rfl (ba aa53 zz53 rfl rfl rfl (v := (vD ((gt l x10).f))) rfl) rfl ?_; clear h ac wo; intro ac wo h
     refine inl (vs := [(vR (((gt l x10).iv).hi)), (vD ((gt l x10).f)), (ptr b1 0)]) (M := 13) h (nl (vs := [(vR (((gt l x10).iv).hi)), (vD ((gt l x10).f))]) (cap := [(ptr b1 0)]) cc229 rfl rfl) Tryz.func229 rfl rfl rfl ?_
     clear h ac; intro R3 hR3 ac h
     refine gz h <| gr fun K22 hK22 => gb (cR (((gt l x10).iv).hi)) rfl rfl rfl fun b7 => gb (cD ((gt l x10).f)) rfl rfl rfl fun b8 => gn hK22 <| gR <| g1 5 rfl (ba aa50 zz50 rfl rfl rfl (v := sv9) rfl) rfl <| g1 1 rfl (ba aa71 zz71 rfl rfl rfl (v := (vR (((gt l x10).iv).hi))) rfl) rfl <| g1 1 rfl (ba aa71 zz71 rfl rfl rfl (v := (vR (((gt l x10).iv).hi))) rfl) rfl <| g0 (cg pk rfl rfl (v := (vV (⟨((gt l x10).iv).hi, ((gt l x10).iv).hi, false, false⟩ : Iv))) rfl) rfl <| g1 0 rfl (ba aa53 zz53 rfl rfl rfl (v := (vD ((gt l x10).f))) rfl) rfl <| g0 (cg i0 rfl rfl (v := (vUD (⟨(⟨((gt l x10).iv).hi, ((gt l x10).iv).hi, false, false⟩ : Iv), (gt l x10).f⟩ : U Qd))) rfl) rfl ?_; clear h ac wo; intro ac wo h
     refine nw h (dq (α := U Qd) (xs := [.tmp 10]) (vs := [(vUD (⟨(⟨((gt l x10).iv).hi, ((gt l x10).iv).hi, false, false⟩ : Iv), (gt l x10).f⟩ : U Qd))]) [(⟨(⟨((gt l x10).iv).hi, ((gt l x10).iv).hi, false, false⟩ : Iv), (gt l x10).f⟩ : U Qd)] fz rfl rfl rfl (by decide)) rfl ?_; clear h ac wo; intro sv10 ac wo nnsv10 h
     refine on2 h 3 0 rfl rfl (fl (xs := (out ++ [(⟨(⟨((gt l x10).iv).lo, ((gt l x10).iv).hi, true, true⟩ : Iv), (gt l x10).f⟩ : U Qd)])) (ys := [(⟨(⟨((gt l x10).iv).hi, ((gt l x10).iv).hi, false, false⟩ : Iv), (gt l x10).f⟩ : U Qd)]) fz (fun w hs => (row_view hs 0 rfl)) rfl rfl (by first | omega | grind)) rfl ?_; clear h ac wo; intro sv11 ac wo apsv11 h
     refine st h 6 [sv11] rfl zz50 rfl rfl (lw (h.row_sl 0 rfl)) rfl (pC (h.row_sl 0 rfl)) rfl rfl <| gx (fun _ _ => bV) ?_; clear h ac wo; intro ac wo h
     refine retN (rs := []) (vs := []) h rfl .nil rfl (hR3 _ _ _ h.bel h.sep ?_)
     clear h ac hR3; intro ac h
     refine gz h <| gx (fun _ _ => bV) <| gN <| gx hK8 <| gR <| g0 (ch rfl rfl (r := ((x10 + 1 : Nat) : Int)) (by rw [wI]; omega)) rfl <| g0 (ak rfl) rfl <| gx (fun _ _ => bV) ?_; clear h ac wo; intro ac wo h
     exact aU ⟨m1, (by omega), _, _, _, (by first | omega | grind), co hL1 (show bX l x10 out = .go _ from (Eq.trans (cT hc1) (Eq.trans (cF hc2) (Eq.trans (cF hc5) (cT hc6))))), (by first | omega | grind), (All.app (All.app zout (All.cons ⟨⟨((All.gt zl (cG _)).1).1, ((All.gt zl (cG _)).1).2⟩, (All.gt zl (cG _)).2⟩ All.nil)) (All.cons ⟨⟨((All.gt zl (cG _)).1).2, ((All.gt zl (cG _)).1).2⟩, (All.gt zl (cG _)).2⟩ All.nil)), (by first | omega | grind), (h.pick [0, 6] (by decide)).sub ⟨rfl, rfl, rfl, rfl, rfl, trivial⟩⟩
    ·
     have hq6 := hc6; try simp at hq6
     refine gz h <| gS <| gN <| gx hK8 <| gR <| g0 (ch rfl rfl (r := ((x10 + 1 : Nat) : Int)) (by rw [wI]; omega)) rfl <| g0 (ak rfl) rfl <| gx (fun _ _ => bV) ?_; clear h ac wo; intro ac wo h
     exact aU ⟨m1, (by omega), _, _, _, (by first | omega | grind), co hL1 (show bX l x10 out = .go _ from (Eq.trans (cT hc1) (Eq.trans (cF hc2) (Eq.trans (cF hc5) (cF hc6))))), (by first | omega | grind), (All.app zout (All.cons ⟨⟨((All.gt zl (cG _)).1).1, ((All.gt zl (cG _)).1).2⟩, (All.gt zl (cG _)).2⟩ All.nil)), (by first | omega | grind), (h.pick [0, 3] (by decide)).sub ⟨rfl, rfl, rfl, rfl, rfl, trivial⟩⟩
 ·
  have hd1 := of_decide_eq_false hc1
  refine ep ?_
  have hx1 := dU hL1 (show bX l x10 out = .out (x10, out) from (cF hc1))
  refine gz h <| gx hK4 <| gr fun K23 hK23 => g1 1 rfl (ba aa50 zz50 rfl rfl rfl (v := outv) rfl) rfl <| g0 (aj rfl) rfl <| gn hK23 <| gT ?_; clear h ac wo; intro ac wo h
  have hd : af l = out := (eV (hX1.trans hx1))
  exact ret h rfl (.tmp rfl .nil) rfl (by rw [hd]; exact h.retR 0 rfl ⟨zout, (by omega)⟩)
attribute [irreducible] af
def dQ (a : U Qd) (b : U Qd) : Int :=
 (lO ([(aE a.iv.lo b.iv.lo), (dF (aY a.iv) (aY b.iv)), (aE a.iv.hi b.iv.hi)]))
theorem jZ (a : U Qd) (b : U Qd) (za : jI 30 a) (zb : jI 30 b) (w0 : World)  : Calls Tryz.prog 225 #[(vUD a), (vUD b)] w0 (RetP w0 (.int .i64 (dQ a b)) (True)) := by
 refine enter (N := 31) (args := [(vUD a), (vUD b)]) Tryz.func225 rfl rfl ?_; intro ac h
 have p2 := aF ((bQ a.iv.lo b.iv.lo 10 (by omega) za.1.1 zb.1.1) w0)
 refine ej fun K1 hK1 => ?_
 refine bx h (cUD a) rfl rfl rfl fun b1 => gb (cUD b) rfl rfl rfl fun b2 => g0 (aj rfl) rfl <| gn hK1 <| gr fun K2 hK2 => g0 (aj rfl) rfl <| gn hK2 <| gq fun K3 hK3 => ?_; clear h ac; intro ac wo h
 have s3 := Calls.pr ((fun w_ hB_ hS_ => eR a.iv za.1 w_ ) _ h.bel h.sep)
 have p4 := s3
 have s5 := Calls.pr ((fun w_ hB_ hS_ => eR b.iv zb.1 w_ ) _ h.bel h.sep)
 have p6 := s5
 have p8 := aF ((jT (aY a.iv) (aY b.iv)) w0)
 have p10 := aF ((bQ a.iv.hi b.iv.hi 10 (by omega) za.1.2 zb.1.2) w0)
 replace h := h.emps 1
 refine cZ mixed [dv _, dv _, dw _ [1], dv _, dv _, dw _ [0], dv _, dv _, dv _, dw _ [1], dv _, dv _, dv _, dw _ [0], dv _, dv _, dv _, dv _, dw _ [1], dv _, dv _, dw _ [0], dv _, ⟨.nd (.one 23 fun v => NN v 3), [2]⟩, dw _ [2], dv _] [⟨_, []⟩, ⟨_, []⟩, ⟨.emp, [(23, .one 23 fun v => .row (α := Int) 3 v ([(aE a.iv.lo b.iv.lo), (dF (aY a.iv) (aY b.iv)), (aE a.iv.hi b.iv.hi)]))]⟩] h rfl (by kernel_rfl) ⟨fun _ _ => aL (fa uu126 rfl zz86 rfl rfl rfl (k' := 0)), fun _ _ => aL (fa uu86 rfl zz71 rfl rfl rfl (k' := 0)), fun _ _ => cY _ rfl rfl (ba aa71 zz71 rfl rfl rfl (v := (vR a.iv.lo)) rfl), fun _ _ => aL (fa uu126 rfl zz86 rfl rfl rfl (k' := 0)), fun _ _ => aL (fa uu86 rfl zz71 rfl rfl rfl (k' := 0)), fun _ _ => cY _ rfl rfl (ba aa71 zz71 rfl rfl rfl (v := (vR b.iv.lo)) rfl), fun _ _ => d7 (dy (bF Tryz.call127 rfl) (kk (bQ a.iv.lo b.iv.lo 10 (by omega) za.1.1 zb.1.1))), fun _ _ => om rfl, fun _ _ => aL (fa uu126 rfl zz86 rfl rfl rfl (k' := 0)), fun _ _ => cY _ rfl rfl (ba aa86 zz86 rfl rfl rfl (v := (vV a.iv)) rfl), fun _ _ => d7 (dy (nl (cap := []) Tryz.call226 rfl rfl) (kk (eR a.iv za.1))), fun _ _ => om rfl, fun _ _ => aL (fa uu126 rfl zz86 rfl rfl rfl (k' := 0)), fun _ _ => cY _ rfl rfl (ba aa86 zz86 rfl rfl rfl (v := (vV b.iv)) rfl), fun _ _ => d7 (dy (nl (cap := []) Tryz.call226 rfl rfl) (kk (eR b.iv zb.1))), fun _ _ => d7 (dy (bF Tryz.call228 rfl) (kk (jT (aY a.iv) (aY b.iv)))), fun _ _ => aL (fa uu126 rfl zz86 rfl rfl rfl (k' := 0)), fun _ _ => aL (fa uu86 rfl zz71 rfl rfl rfl (k' := 9)), fun _ _ => cY _ rfl rfl (ba aa71 zz71 rfl rfl rfl (v := (vR a.iv.hi)) rfl), fun _ _ => aL (fa uu126 rfl zz86 rfl rfl rfl (k' := 0)), fun _ _ => aL (fa uu86 rfl zz71 rfl rfl rfl (k' := 9)), fun _ _ => cY _ rfl rfl (ba aa71 zz71 rfl rfl rfl (v := (vR b.iv.hi)) rfl), fun _ _ => d7 (dy (bF Tryz.call127 rfl) (kk (bQ a.iv.hi b.iv.hi 10 (by omega) za.1.2 zb.1.2))), fun _ _ => k7 (ψ := fun v => NN v 3) (B := fun v => [.row (α := Int) 3 v ([(aE a.iv.lo b.iv.lo), (dF (aY a.iv) (aY b.iv)), (aE a.iv.hi b.iv.hi)])]) [.emp] rfl (fun v _ => by simp only [fc, bE] <;> rfl) (fun v hv => by simpa [DF.one, bE] using hv) (iQ (dq (α := Int) (xs := [.tmp 12, .tmp 21, .tmp 28]) (vs := [(.int .i64 (aE a.iv.lo b.iv.lo)), (.int .i64 (dF (aY a.iv) (aY b.iv))), (.int .i64 (aE a.iv.hi b.iv.hi))]) [(aE a.iv.lo b.iv.lo), (dF (aY a.iv) (aY b.iv)), (aE a.iv.hi b.iv.hi)] slt358 rfl rfl rfl (by decide))), fun ξ hφ => gF _ [.row (α := Int) 3 (ξ 23) ([(aE a.iv.lo b.iv.lo), (dF (aY a.iv) (aY b.iv)), (aE a.iv.hi b.iv.hi)])] rfl rfl (dy (bF Tryz.call227 rfl) (fun w_ hB_ hS_ => t7 ([(aE a.iv.lo b.iv.lo), (dF (aY a.iv) (aY b.iv)), (aE a.iv.hi b.iv.hi)]) (ξ 23) w_ (row_view hS_ 0 rfl))), fun _ _ => aL (aj rfl), trivial⟩ ?_
 clear h ac wo; intro ξ ac wo hφ h
 replace h : St w0 31 [(4, (.int .i64 (lO ([(aE a.iv.lo b.iv.lo), (dF (aY a.iv) (aY b.iv)), (aE a.iv.hi b.iv.hi)]))))] [.blk b2 (cUD b) 126, .blk b1 (cUD a) 126] ac wo := (h.pick [0, 1] (by decide)).sub ⟨rfl, trivial⟩
 clear hφ ξ
 refine hK3 _ _ ?_
 refine gu ?_
 exact ret h rfl (.tmp rfl .nil) rfl (h.retP (by unfold dQ; rfl) trivial)
attribute [irreducible] dQ
def g8 (data : List (U Qd)) (a : Nat) (b : Nat) (i : Nat) (data1 : List (U Qd)) : List (U Qd) :=
 data1
def g7 (data : List (U Qd)) (a : Nat) (b : Nat) (i : Nat) (data1 : List (U Qd)) (j : Nat) (data2 : List (U Qd)) : Nx (Nat × (List (U Qd))) (List (U Qd)) :=
 .go ((i + 1), data2)
def di (data : List (U Qd)) (a : Nat) (b : Nat) (i : Nat) (data1 : List (U Qd)) (j : Nat) (data2 : List (U Qd)) : Nx (Nat × (List (U Qd))) (List (U Qd)) :=
 bif ((decide (((j : Nat) : Int) > ((a : Nat) : Int))) && (decide ((dQ (gt data2 j) (gt data2 (j - 1))) < 0))) then
  .go ((j - 1), ((data2.set j (gt data2 (j - 1))).set (j - 1) (gt data2 j)))
 else
  .out (j, data2)
def dl (data : List (U Qd)) (a : Nat) (b : Nat) (i : Nat) (data1 : List (U Qd)) : Nx (Nat × (List (U Qd))) (List (U Qd)) :=
 bif (decide (((i : Nat) : Int) < ((b : Nat) : Int))) then
  fin (bR (fun s => di data a b i data1 s.1 s.2) (i + 1) (i, data1)) (fun s => g7 data a b i data1 s.1 s.2) (fun r => .ret r)
 else
  .out (i, data1)
def bD (data : List (U Qd)) (a : Nat) (b : Nat) : List (U Qd) :=
 fin (bR (fun s => dl data a b s.1 s.2) ((b + 1 - (a + 1)) + 1) ((a + 1), data)) (fun s => g8 data a b s.1 s.2) (fun r => r)
theorem gZ (data : List (U Qd)) (datav : Value) (a : Nat) (b : Nat) (hab : a ≤ b) (hb : b ≤ data.length) (hb2 : b ≤ 1000) (zdata : All (jI 30) data) (w0 w : World) (B : Asn) (hbel : Below w0.heap.size w0 w) (hsep : ∃ Z_, Sep w0.heap.size w [.row (α := U Qd) 126 datav data, B] Z_)  : Calls Tryz.prog 294 #[datav, (.int .i64 ((a : Nat) : Int)), (.int .i64 ((b : Nat) : Int)), (.func (.func 225) #[] #[])] w (RetY w0 (fun v => v = .tuple #[] ∧ (All (jI 30) (bD data a b) ∧ (bD data a b).length = data.length)) (fun v => [.row (α := U Qd) 126 datav (bD data a b), B])) := by
 refine ld (N := 53) (args := [datav, (.int .i64 ((a : Nat) : Int)), (.int .i64 ((b : Nat) : Int)), (.func (.func 225) #[] #[])]) Tryz.func294 rfl rfl hbel hsep ?_; intro ac h
 have hlendata := h.len 0 rfl
 refine ej fun K1 hK1 => ?_
 refine rd0 h (ak rfl) rfl <| g0 (ch rfl rfl (r := ((a + 1 : Nat) : Int)) (by rw [wI]; omega)) rfl <| g0 (aj rfl) rfl <| gn hK1 <| gB ?_; clear h ac; intro ac wo h
 obtain ⟨X1, hX1⟩ : ∃ X, bR (fun s => dl data a b s.1 s.2) ((b + 1 - (a + 1)) + 1) ((a + 1), data) = X := ⟨_, rfl⟩
 refine wp_loop_ghost (fun n_ a_ w_ => ∃ (i : Nat) (data1 : List (U Qd)), ((b + 1 - i) < n_) ∧ (bR (fun s => dl data a b s.1 s.2) n_ (i, data1) = X1) ∧ (i ≤ b + 1) ∧ (All (jI 30) data1) ∧ (data1.length = data.length) ∧ St w0 53 [(0, datav), (1, (.int .i64 ((a : Nat) : Int))), (2, (.int .i64 ((b : Nat) : Int))), (3, (.func (.func 225) #[] #[])), (8, (.int .i64 ((i : Nat) : Int)))] [.row (α := U Qd) 126 datav data1, B] a_ w_) ((b + 1 - (a + 1)) + 1) ⟨(a + 1), data, (by omega), hX1, (by omega), zdata, (by omega), (h.sub ⟨rfl, rfl, rfl, rfl, rfl, trivial⟩)⟩ ?_
 clear h ac wo; rintro n1 ac wo ⟨i, data1, hm1, hL1, hi, zdata1, hdl, h⟩
 obtain ⟨m1, rfl⟩ : ∃ m, n1 = m + 1 := ⟨n1 - 1, by omega⟩
 refine gz h <| gq fun K2 hK2 => gr fun K3 hK3 => g0 (ak rfl) rfl <| g0 (ak rfl) rfl <| g0 (d5 rfl rfl) rfl <| gn hK3 ?_; clear h ac wo; intro ac wo h
 refine dA h rfl (fun hc1 => ?_) (fun hc1 => ?_)
 ·
  have hd1 := of_decide_eq_true hc1
  refine gz h <| gS <| gx hK2 <| gq fun K4 hK4 => gB <| gr fun K5 hK5 => g0 (ak rfl) rfl <| g0 (aj rfl) rfl <| gn hK5 <| gB ?_; clear h ac wo; intro ac wo h
  obtain ⟨X2, hX2⟩ : ∃ X, bR (fun s => di data a b i data1 s.1 s.2) (i + 1) (i, data1) = X := ⟨_, rfl⟩
  refine wp_loop_ghost (fun n_ a_ w_ => ∃ (j : Nat) (data2 : List (U Qd)), (j < n_) ∧ (bR (fun s => di data a b i data1 s.1 s.2) n_ (j, data2) = X2) ∧ (All (jI 30) data2) ∧ (j ≤ i) ∧ (data2.length = data.length) ∧ St w0 53 [(0, datav), (1, (.int .i64 ((a : Nat) : Int))), (2, (.int .i64 ((b : Nat) : Int))), (3, (.func (.func 225) #[] #[])), (8, (.int .i64 ((i : Nat) : Int))), (9, (.int .i64 ((j : Nat) : Int)))] [.row (α := U Qd) 126 datav data2, B] a_ w_) (i + 1) ⟨i, data1, (by omega), hX2, zdata1, (by omega), (by omega), (h.sub ⟨rfl, rfl, rfl, rfl, rfl, rfl, trivial⟩)⟩ ?_
  clear h ac wo; rintro n2 ac wo ⟨j, data2, hm2, hL2, zdata2, hj, hdl2, h⟩
  obtain ⟨m2, rfl⟩ : ∃ m, n2 = m + 1 := ⟨n2 - 1, by omega⟩
  refine dV fun K6 hK6 => ?_
  refine dV fun K7 hK7 => ?_
  refine cZ mixed [dv _, dv _, dv _, dv _, dv _, dv _, dv _, dv _, dw _ [0], dv _, dv _, dv _, dv _, dw _ [0], dv _, dv _, dv _] [⟨_, []⟩, ⟨_, []⟩] h rfl (by kernel_rfl) ⟨fun _ _ => om rfl, fun _ _ => om rfl, fun _ _ => aL (ko rfl rfl), fun _ _ => om rfl, fun _ _ => oh rfl rfl rfl rfl (fun hg => ak rfl), fun _ _ => oh rfl rfl rfl rfl (fun hg => ak rfl), fun _ _ => oh rfl rfl rfl rfl (fun hg => ak rfl), fun _ _ => oh rfl rfl rfl rfl (fun hg => eC (i := j) uu50 zz126 (aN rfl hg) (aN rfl hg) (h.row_nn 0 rfl (by first | omega | (simp at hg; omega) | grind)) (by first | omega | (simp at hg; omega) | grind)), fun _ _ => oh rfl rfl rfl rfl (fun hg => dX (k := 0) aa126 zz126 (cK (by first | omega | (simp at hg; omega) | grind)) (aN rfl hg) (Nat.add_zero _) rfl rfl (v := (vUD (gt data2 j))) rfl), fun _ _ => oh rfl rfl rfl rfl (fun hg => ak rfl), fun _ _ => oh rfl rfl rfl rfl (fun hg => ak rfl), fun _ _ => oh rfl rfl rfl rfl (fun hg => eQ (aN rfl hg) rfl (r := (((j - 1) : Nat) : Int)) (by rw [wI]; first | omega | (simp at hg; omega) | grind)), fun _ _ => oh rfl rfl rfl rfl (fun hg => eC (i := (j - 1)) uu50 zz126 (aN rfl hg) (aN rfl hg) (h.row_nn 0 rfl (by first | omega | (simp at hg; omega) | grind)) (by first | omega | (simp at hg; omega) | grind)), fun _ _ => oh rfl rfl rfl rfl (fun hg => dX (k := 0) aa126 zz126 (cK (by first | omega | (simp at hg; omega) | grind)) (aN rfl hg) (Nat.add_zero _) rfl rfl (v := (vUD (gt data2 (j - 1)))) rfl), fun _ _ => og1 rfl rfl rfl rfl (fun hg => dy (nl (cap := []) Tryz.call225 (aN rfl hg) (cH (aN rfl hg) (cH (aN rfl hg) rfl))) (kk (jZ (gt data2 j) (gt data2 (j - 1)) (All.gt zdata2 (cG _)) (All.gt zdata2 (cG _))))), fun _ _ => oh rfl rfl rfl rfl (fun hg => d5 (aN rfl hg) rfl), fun _ _ => aL (fw rfl (fun e => (aN rfl e))), trivial⟩ ?_
  clear h ac wo; intro ξ ac wo hφ h
  replace h : St w0 53 [(0, datav), (1, (.int .i64 ((a : Nat) : Int))), (2, (.int .i64 ((b : Nat) : Int))), (3, (.func (.func 225) #[] #[])), (8, (.int .i64 ((i : Nat) : Int))), (9, (.int .i64 ((j : Nat) : Int))), (34, (.bool ((decide (((j : Nat) : Int) > ((a : Nat) : Int))) && (decide ((dQ (gt data2 j) (gt data2 (j - 1))) < 0)))))] [.row (α := U Qd) 126 datav data2, B] ac wo := (h.pick [0, 1] (by decide)).sub ⟨rfl, rfl, rfl, rfl, rfl, rfl, rfl, trivial⟩
  clear hφ ξ
  refine hK7 _ _ ?_
  refine dA h rfl (fun hc2 => ?_) (fun hc2 => ?_)
  ·
   have hq2 := hc2; try simp at hq2
   refine eL ?_
   refine hK6 _ _ ?_
   refine dV fun K8 hK8 => ?_
   refine gg ?_
   refine cZ mixed [dv _, dv _, dv _, dv _, dv _, dv _, dv _, dv _, dv _, dw _ [0], dv _, dv _, dv _, dw _ [0], dv _, dw _ [0], dv _, dw _ [0]] [⟨.row (α := U Qd) 126 datav data2, [(15, .con (.row (α := U Qd) 126 datav (data2.set j (gt data2 (j - 1))))), (17, .con (.row (α := U Qd) 126 datav ((data2.set j (gt data2 (j - 1))).set (j - 1) (gt data2 j))))]⟩, ⟨_, []⟩] h rfl (by kernel_rfl) ⟨fun _ _ => om rfl, fun _ _ => om rfl, fun _ _ => om rfl, fun _ _ => om rfl, fun _ _ => aL (eQ rfl rfl (r := (((j - 1) : Nat) : Int)) (by rw [wI]; first | omega | grind)), fun _ _ => om rfl, fun _ _ => om rfl, fun _ _ => aL (eQ rfl rfl (r := (((j - 1) : Nat) : Int)) (by rw [wI]; first | omega | grind)), fun _ _ => aL (eC (i := (j - 1)) uu50 zz126 rfl rfl (h.row_nn 0 rfl (by first | omega | grind)) (by first | omega | grind)), fun _ _ => cY _ rfl rfl (dX (k := 0) aa126 zz126 (cK (by first | omega | grind)) rfl (Nat.add_zero _) rfl rfl (v := (vUD (gt data2 (j - 1)))) rfl), fun _ _ => om rfl, fun _ _ => om rfl, fun _ _ => aL (eC (i := j) uu50 zz126 rfl rfl (h.row_nn 0 rfl (by first | omega | grind)) (by first | omega | grind)), fun _ _ => cY _ rfl rfl (dX (k := 0) aa126 zz126 (cK (by first | omega | grind)) rfl (Nat.add_zero _) rfl rfl (v := (vUD (gt data2 j))) rfl), fun _ _ => aL (eC (i := j) uu50 zz126 rfl rfl (h.row_nn 0 rfl (by first | omega | grind)) (by first | omega | grind)), fun _ _ => gF _ [.row (α := U Qd) 126 datav (data2.set j (gt data2 (j - 1)))] rfl rfl (ip (k := 0) (u' := (gt data2 (j - 1))) zz126 (cK (by first | omega | grind)) rfl (Nat.add_zero _) rfl rfl rfl rfl rfl rfl), fun _ _ => aL (eC (i := (j - 1)) uu50 zz126 rfl rfl (h.row_nn 0 rfl (by first | omega | grind)) (by first | omega | grind)), fun _ _ => gF _ [.row (α := U Qd) 126 datav ((data2.set j (gt data2 (j - 1))).set (j - 1) (gt data2 j))] rfl rfl (ip (k := 0) (u' := (gt data2 j)) zz126 (cK (by first | omega | grind)) rfl (Nat.add_zero _) rfl rfl rfl rfl rfl rfl), trivial⟩ ?_
   clear h ac wo; intro ξ ac wo hφ h
   replace h : St w0 53 [(0, datav), (1, (.int .i64 ((a : Nat) : Int))), (2, (.int .i64 ((b : Nat) : Int))), (3, (.func (.func 225) #[] #[])), (8, (.int .i64 ((i : Nat) : Int))), (9, (.int .i64 ((j : Nat) : Int)))] [.row (α := U Qd) 126 datav ((data2.set j (gt data2 (j - 1))).set (j - 1) (gt data2 j)), B] ac wo := (h.pick [0, 1] (by decide)).sub ⟨rfl, rfl, rfl, rfl, rfl, rfl, trivial⟩
   clear hφ ξ
   refine gz h <| gN <| gx hK8 <| gR <| g0 (ak rfl) rfl <| g0 (eQ rfl rfl (r := (((j - 1) : Nat) : Int)) (by rw [wI]; omega)) rfl <| g0 (aj rfl) rfl <| gx (fun _ _ => bV) ?_; clear h ac wo; intro ac wo h
   exact aU ⟨m2, (by omega), _, _, (by first | omega | grind), co hL2 (show di data a b i data1 j data2 = .go _ from (cT hc2)), (All.set (All.set zdata2 (All.gt zdata2 (cG _))) (All.gt zdata2 (cG _))), (by first | omega | grind), (by first | omega | grind), (h.pick [0, 1] (by decide)).sub ⟨rfl, rfl, rfl, rfl, rfl, rfl, trivial⟩⟩
  ·
   have hq2 := hc2; try simp at hq2
   refine ep ?_
   have hx2 := dU hL2 (show di data a b i data1 j data2 = .out (j, data2) from (cF hc2))
   refine gz h <| gx hK4 <| gR <| g0 (ak rfl) rfl <| g0 (ch rfl rfl (r := ((i + 1 : Nat) : Int)) (by rw [wI]; omega)) rfl <| g0 (aj rfl) rfl <| gx (fun _ _ => bV) ?_; clear h ac wo; intro ac wo h
   exact aU ⟨m1, (by omega), _, _, (by omega), co hL1 (show dl data a b i data1 = .go _ from (Eq.trans (cT hc1) (eV (hX2.trans hx2)))), (by omega), zdata2, (by omega), (h.pick [0, 1] (by decide)).sub ⟨rfl, rfl, rfl, rfl, rfl, trivial⟩⟩
 ·
  have hd1 := of_decide_eq_false hc1
  refine ep ?_
  have hx1 := dU hL1 (show dl data a b i data1 = .out (i, data1) from (cF hc1))
  have hd : bD data a b = data1 := (eV (hX1.trans hx1))
  exact retN (vs := []) h rfl .nil rfl ((h.pick [0, 1] (by decide)).retY ⟨rfl, (by rw [hd]; exact ⟨zdata1, (by omega)⟩)⟩ (by rw [hd]; rfl))
attribute [irreducible] bD
def i9 (data : List (U Qd)) (n : Nat) (a : Nat) (b : Nat) (data1 : List (U Qd)) (blockSize : Nat) : List (U Qd) :=
 (bD data1 a n)
def eA (data : List (U Qd)) (n : Nat) (a : Nat) (b : Nat) (data1 : List (U Qd)) (blockSize : Nat) : Nx Nat (List (U Qd)) :=
 .out blockSize
def ja (data : List (U Qd)) (n : Nat) (a : Nat) (b : Nat) (data1 : List (U Qd)) : List (U Qd) :=
 fin (bR (fun s => eA data n a b data1 s) (0 + 1) 20) (fun s => i9 data n a b data1 s) (fun r => r)
def eB (data : List (U Qd)) (n : Nat) (a : Nat) (b : Nat) (data1 : List (U Qd)) : Nx (Nat × Nat × (List (U Qd))) (List (U Qd)) :=
 .out (a, b, data1)
def cM (data : List (U Qd)) (n : Nat) : List (U Qd) :=
 fin (bR (fun s => eB data n s.1 s.2.1 s.2.2) (0 + 1) (0, 20, data)) (fun s => ja data n s.1 s.2.1 s.2.2) (fun r => r)
theorem i7 (data : List (U Qd)) (datav : Value) (n : Nat) (hn : n = data.length) (hl : data.length < 20) (zdata : All (jI 30) data) (w0 w : World) (B : Asn) (hbel : Below w0.heap.size w0 w) (hsep : ∃ Z_, Sep w0.heap.size w [.row (α := U Qd) 126 datav data, B] Z_)  : Calls Tryz.prog 279 #[datav, (.int .i64 ((n : Nat) : Int)), (.func (.func 225) #[] #[])] w (RetY w0 (fun v => v = .tuple #[] ∧ (All (jI 30) (cM data n) ∧ (cM data n).length = data.length)) (fun v => [.row (α := U Qd) 126 datav (cM data n), B])) := by
 refine ld (N := 63) (args := [datav, (.int .i64 ((n : Nat) : Int)), (.func (.func 225) #[] #[])]) Tryz.func279 rfl rfl hbel hsep ?_; intro ac h
 have hlendata := h.len 0 rfl
 refine ej fun K1 hK1 => ?_
 refine rd0 h (aj rfl) rfl <| gn hK1 <| gr fun K2 hK2 => g0 (ak rfl) rfl <| g0 (aj rfl) rfl <| g0 (aj rfl) rfl <| gn hK2 <| gq fun K3 hK3 => gB ?_; clear h ac; intro ac wo h
 obtain ⟨X1, hX1⟩ : ∃ X, bR (fun s => eB data n s.1 s.2.1 s.2.2) (0 + 1) (0, 20, data) = X := ⟨_, rfl⟩
 refine wp_loop_ghost (fun n_ a_ w_ => ∃ (a : Nat) (b : Nat) (data1 : List (U Qd)), (0 < n_) ∧ (bR (fun s => eB data n s.1 s.2.1 s.2.2) n_ (a, b, data1) = X1) ∧ (All (jI 30) data1) ∧ (a = 0) ∧ (b = 20) ∧ (data1.length = data.length) ∧ St w0 63 [(0, datav), (1, (.int .i64 ((n : Nat) : Int))), (2, (.func (.func 225) #[] #[])), (6, (.int .i64 20)), (7, (.int .i64 ((a : Nat) : Int))), (8, (.int .i64 ((b : Nat) : Int)))] [.row (α := U Qd) 126 datav data1, B] a_ w_) (0 + 1) ⟨0, 20, data, (by omega), hX1, zdata, (by omega), (by omega), (by omega), (h.sub ⟨rfl, rfl, rfl, rfl, rfl, rfl, trivial⟩)⟩ ?_
 clear h ac wo; rintro n1 ac wo ⟨a, b, data1, hm1, hL1, zdata1, ha0, hb0, hdl, h⟩
 obtain ⟨m1, rfl⟩ : ∃ m, n1 = m + 1 := ⟨n1 - 1, by omega⟩
 refine gz h <| gq fun K4 hK4 => gr fun K5 hK5 => g0 (ak rfl) rfl <| g0 (ak rfl) rfl <| g0 (pK rfl rfl) rfl <| gn hK5 ?_; clear h ac wo; intro ac wo h
 refine nP h rfl ?_ (decide_eq_false (by omega))
 refine ep ?_
 have hx1 := dU hL1 (show eB data n a b data1 = .out (a, b, data1) from rfl)
 refine gz h <| gx hK3 <| gr fun K6 hK6 => g0 (ak rfl) rfl <| g0 (ak rfl) rfl <| g0 (ak rfl) rfl <| g0 (ak rfl) rfl ?_; clear h ac wo; intro ac wo h
 refine on1 h 0 rfl (nI (vs := [datav, (.int .i64 ((a : Nat) : Int)), (.int .i64 ((n : Nat) : Int)), (.func (.func 225) #[] #[])]) (A := fun v => [.row (α := U Qd) 126 datav (bD data1 a n)]) (bF Tryz.call294 rfl) (fun w_ B_ hB_ hS_ => gZ data1 datav a n (by omega) (by omega) (by omega) zdata1 w0 w_ B_ hB_ hS_ )) rfl ?_; clear h ac wo; intro vc ac wo s2 h
 obtain rfl : vc = _ := s2.1
 have p3 := s2.2.2
 refine bV ?_
 refine hK6 _ _ ?_
 refine gg ?_
 obtain ⟨X2, hX2⟩ : ∃ X, bR (fun s => eA data n a b data1 s) (0 + 1) 20 = X := ⟨_, rfl⟩
 refine wp_loop_ghost (fun n_ a_ w_ => ∃ (blockSize : Nat), (0 < n_) ∧ (bR (fun s => eA data n a b data1 s) n_ blockSize = X2) ∧ (blockSize = 20) ∧ St w0 63 [(0, datav), (1, (.int .i64 ((n : Nat) : Int))), (2, (.func (.func 225) #[] #[])), (6, (.int .i64 ((blockSize : Nat) : Int)))] [.row (α := U Qd) 126 datav (bD data1 a n), B] a_ w_) (0 + 1) ⟨20, (by omega), hX2, (by omega), (h.sub ⟨rfl, rfl, rfl, rfl, trivial⟩)⟩ ?_
 clear h ac wo; rintro n2 ac wo ⟨blockSize, hm2, hL2, hbs, h⟩
 obtain ⟨m2, rfl⟩ : ∃ m, n2 = m + 1 := ⟨n2 - 1, by omega⟩
 refine gz h <| gq fun K7 hK7 => gr fun K8 hK8 => g0 (ak rfl) rfl <| g0 (ak rfl) rfl <| g0 (d5 rfl rfl) rfl <| gn hK8 ?_; clear h ac wo; intro ac wo h
 refine nP h rfl ?_ (decide_eq_false (by omega))
 refine ep ?_
 have hx2 := dU hL2 (show eA data n a b data1 blockSize = .out blockSize from rfl)
 have hd : cM data n = (bD data1 a n) := (Eq.trans (eV (hX1.trans hx1)) (eV (hX2.trans hx2)))
 exact retN (vs := []) h rfl .nil rfl ((h.pick [0, 1] (by decide)).retY ⟨rfl, (by rw [hd]; exact ⟨s2.2.1, (by omega)⟩)⟩ (by rw [hd]; rfl))
attribute [irreducible] cM
def bA (x : List (U Qd)) : List (U Qd) :=
 (cM x x.length)
theorem fL (x : List (U Qd)) (xv : Value) (hl : x.length < 20) (zx : All (jI 30) x) (w0 w : World) (B : Asn) (hbel : Below w0.heap.size w0 w) (hsep : ∃ Z_, Sep w0.heap.size w [.row (α := U Qd) 126 xv x, B] Z_)  : Calls Tryz.prog 224 #[xv, (.func (.func 225) #[] #[])] w (RetY w0 (fun v => v = .tuple #[] ∧ (All (jI 30) (bA x) ∧ (bA x).length = x.length)) (fun v => [.row (α := U Qd) 126 xv (bA x), B])) := by
 refine ld (N := 9) (args := [xv, (.func (.func 225) #[] #[])]) Tryz.func224 rfl rfl hbel hsep ?_; intro ac h
 have hlenx := h.len 0 rfl
 refine c_r ?_
 refine rd0 h (ak rfl) rfl <| g0 (ak rfl) rfl ?_; clear h ac; intro ac wo h
 refine rd0 h (et uu50 rfl (h.row_sl 0 rfl)) rfl <| g0 (ak rfl) rfl ?_; clear h ac wo; intro ac wo h
 refine on1 h 0 rfl (nI (vs := [xv, (.int .i64 ((x.length : Nat) : Int)), (.func (.func 225) #[] #[])]) (A := fun v => [.row (α := U Qd) 126 xv (cM x x.length)]) (bF Tryz.call279 rfl) (fun w_ B_ hB_ hS_ => i7 x xv x.length (by omega) (by omega) zx w0 w_ B_ hB_ hS_ )) rfl ?_; clear h ac wo; intro vc ac wo s2 h
 obtain rfl : vc = _ := s2.1
 have p3 := s2.2.2
 refine bV ?_
 have hd : bA x = (cM x x.length) := rfl
 exact retN (vs := []) h rfl .nil rfl ((h.pick [0, 1] (by decide)).retY ⟨rfl, (by rw [hd]; exact ⟨s2.2.1, (by omega)⟩)⟩ (by rw [hd]; rfl))
attribute [irreducible] bA
def ae (l : List (U Qd)) : (List (U Qd)) :=
 (bA (bo l))
theorem iS (l : List (U Qd)) (lv : Value) (hl : l.length < 20) (zl : All (jI 30) l) (w0 : World) (hlv : View w0 lv l) : Calls Tryz.prog 148 #[lv] w0 (RetR w0 126 (ae l) (All (jI 30) (ae l) ∧ (ae l).length = l.length)) := by
 refine enter (N := 9) (args := [lv]) Tryz.func148 rfl rfl ?_; intro ac h
 have hlenl := hlv.len
 refine ej fun K1 hK1 => ?_
 refine rd0 h (aj rfl) rfl <| gn hK1 <| gr fun K2 hK2 => g0 (ak rfl) rfl ?_; clear h ac; intro ac wo h
 have s1 := RetR.pr ((fun w_ hB_ hS_ => ff l lv (by omega) zl w_ (hlv.below hB_)) _ h.bel h.sep)
 have p2 := s1.2
 have p2_0 := p2.1
 have p2_1 := p2.2
 refine me (xs := (bo l)) h (bF Tryz.call223 rfl) (fun w_ hB_ hS_ => ff l lv (by omega) zl w_ (hlv.below hB_)) rfl ?_; clear h ac wo; intro sv3 ac wo _ h
 refine rd0 h (aj rfl) rfl <| gn hK2 <| gr fun K3 hK3 => g0 (ak rfl) rfl ?_; clear h ac wo; intro ac wo h
 refine on1 h 0 rfl (nI (vs := [sv3, (.func (.func 225) #[] #[])]) (A := fun v => [.row (α := U Qd) 126 sv3 (bA (bo l))]) (bF Tryz.call224 rfl) (fun w_ B_ hB_ hS_ => fL (bo l) sv3 (by omega) s1.1 w0 w_ B_ hB_ hS_ )) rfl ?_; clear h ac wo; intro vc ac wo s5 h
 obtain rfl : vc = _ := s5.1
 have p6 := s5.2.2
 refine gz h <| gn hK3 <| gr fun K4 hK4 => g0 (ak rfl) rfl <| g0 (aj rfl) rfl <| gn hK4 <| gT ?_; clear h ac wo; intro ac wo h
 exact ret h rfl (.tmp rfl .nil) rfl (by unfold ae; exact h.retR 0 rfl ⟨s5.2.1, (by omega)⟩)
attribute [irreducible] ae
end Go.Sx
