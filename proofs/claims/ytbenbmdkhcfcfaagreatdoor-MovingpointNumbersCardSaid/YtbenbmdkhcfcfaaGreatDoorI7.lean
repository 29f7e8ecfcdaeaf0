/- A part of the proof of movingpointNumbers. -/
import Derived.Test.YtbenbmdkhcfcfaaGreatDoorI5
import Derived.Test.YtbenbmdkhcfcfaaGreatDoorI3
set_option linter.unusedVariables false
set_option linter.unusedSimpArgs false
open Go.Proofs.Tryz renaming runUnderlying232 → uu232, zeroValue232 → vv232, sizeOf86 → zz86, sizeOf53 → zz53, call170 → cc170, call169 → cc169, sizeOf88 → zz88, runUnderlying33 → uu33
namespace Go.Sx
theorem wZ {α : Type} [Inhabited α] {l : List α} {i : Nat} (h : i < l.length) : gt l i ∈ l := by rw [g7 h]; exact List.getElem_mem _
section
variable [K : Key]
end
end Go.Sx
namespace Go.Sx
def kcL (p q : Nat) : List GR := (List.range 65).map inZ ++ [aw (qa p), aw (qa (p + q)), gX p]
theorem inZ0 : (default : GR) = inZ 0 := by
  have e : ay 0 = ⟨false, 0⟩ := tR (lJ 0) (fun _ => rfl) (by rw [fJ]; rfl)
  have h : ak ((0 : Nat) : Int) = ⟨⟨false, 0⟩, ⟨false, 0⟩⟩ := by unfold ak; rw [show ((0 : Nat) : Int) = 0 from rfl, e]
  unfold inZ
  rw [h]
  unfold aw
  rfl
theorem sS {p q : Nat} {x : GR} (h : x ∈ kcL p q) : (∃ n, n ≤ 64 ∧ x = inZ n) ∨ x = aw (qa p) ∨ x = aw (qa (p + q)) ∨ x = gX p := by
  unfold kcL at h
  rcases List.mem_append.1 h with h | h
  · obtain ⟨n, hn, rfl⟩ := List.mem_map.1 h
    exact .inl ⟨n, by have := List.mem_range.1 hn; omega, rfl⟩
  · simp at h; exact .inr h
theorem kcL_z {p q n : Nat} (h : n ≤ 64) : inZ n ∈ kcL p q := List.mem_append_left _ (List.mem_map_of_mem (List.mem_range.2 (by omega)))
theorem kc_ok {p q : Nat} {x : GR} (h : x ∈ kcL p q) : ROk x := by
  rcases sS h with ⟨n, _, rfl⟩ | rfl | rfl | rfl
  · exact inZ_ok n
  · exact uQ (oT _).1
  · exact uQ (oT _).1
  · exact gX_ok p
theorem kc_bq {p q : Nat} (hp : p < 256) (hq : q < 256) {x : GR} (h : x ∈ kcL p q) : Bq 100 x.p ∧ Bq 100 x.r := by
  rcases sS h with ⟨n, hn, rfl⟩ | rfl | rfl | rfl
  · exact ⟨Bq.int _ (by omega) (by decide), Bq.zero (by decide)⟩
  · exact ⟨(qa_bq (by omega)).le (by decide), Bq.zero (by decide)⟩
  · exact ⟨(qa_bq (by omega)).le (by decide), Bq.zero (by decide)⟩
  · exact ⟨(qa_bq (by omega)).le (by decide), Bq.int _ (by decide) (by decide)⟩
theorem kc_rt {p q : Nat} {x : GR} (h : x ∈ kcL p q) : RtR x := by
  rcases sS h with ⟨n, _, rfl⟩ | rfl | rfl | rfl
  · rw [show inZ n = aw (ak (n : Int)) from rfl]; unfold RtR; rw [(fr_p _).2.1]; exact ⟨by decide, rfl⟩
  · unfold RtR; rw [(fr_p _).2.1]; exact ⟨by decide, rfl⟩
  · unfold RtR; rw [(fr_p _).2.1]; exact ⟨by decide, rfl⟩
  · exact ⟨by show (ak ((2 : Nat) : Int)).num.mag < 4; rw [show (ak ((2 : Nat) : Int)).num = ay ((2 : Nat) : Int) by unfold ak; rfl, ← i4, fJ]; decide, by show (ak 2).den = _; unfold ak; rfl⟩
abbrev keyC (p q : Nat) (hp : p < 256) (hq : q < 256) : Key where
  l := kcL p q
  ok := fun _ => kc_ok
  sz := by unfold kcL; simp
  z := by rw [inZ0]; exact kcL_z (by decide)
  rt := fun x h => kc_rt h
  szr := fun x h => ⟨cO ((kc_bq hp hq h).1.sz (by decide)) (by decide), cO ((kc_bq hp hq h).2.sz (by decide)) (by decide)⟩
theorem vm {p q : Nat} {hp : p < 256} {hq : q < 256} {x : GR} : @Tm (keyC p q hp hq) x ↔ x ∈ kcL p q := by
  letI := keyC p q hp hq
  rw [← Tm.iff, decide_eq_true_iff]; rfl
theorem kcZ (p q : Nat) (hp : p < 256) (hq : q < 256) : @KeyZ (keyC p q hp hq) := @KeyZ.mk (keyC p q hp hq) fun n hn => vm.2 (kcL_z hn)
theorem kcB (p q : Nat) (hp : p < 256) (hq : q < 256) : @KeyB (keyC p q hp hq) := @KeyB.mk (keyC p q hp hq) fun t ht => (kc_bq hp hq (vm.1 ht)).1
theorem kcG (p q : Nat) (hp : p < 256) (hq : q < 256) : @KeyG (keyC p q hp hq) p q := @KeyG.mk (keyC p q hp hq) p q (vm.2 (List.mem_append_right _ (by simp))) (vm.2 (List.mem_append_right _ (by simp))) (vm.2 (List.mem_append_right _ (by simp)))
end Go.Sx
namespace Go.Sx
open Go Go.RowKit Go.Proofs
set_option maxRecDepth 100000
set_option maxHeartbeats 40000000
attribute [local irreducible] Code.wp wpList Rd Step ObS Ent
attribute [local irreducible] ap aN ak au aA bO aw aV
attribute [local irreducible] a8 aY an aE aZ am br fb kY cG ay
theorem short_ct (c : Crq) (s : List Stq) (sv : Value) (w0 : World) (hsv : View w0 sv s) : Calls Tryz.prog 49 #[vCr c sv] w0 (dI w0 (.bool (decide (((s.length : Nat) : Int) ≤ 6))) True) := by
 refine enter (N := 7) (args := [vCr c sv]) Tryz.func49 rfl rfl ?_; intro ac h
 have hlen := hsv.len
 refine gz h <| (xb) fun b1 => (W) ?_; clear h ac; intro ac wo h
 exact (rt h) (h.retP rfl trivial)
section
variable [K : Key] [KeyZ] [KeyB]
omit [KeyZ] [KeyB] in
omit [KeyZ] [KeyB] in
end
end Go.Sx
namespace Go.Sx
open Go Go.RowKit Go.Proofs
set_option maxRecDepth 100000
set_option maxHeartbeats 40000000
attribute [local irreducible] Code.wp wpList Rd Step ObS Ent
attribute [local irreducible] ap aN ak au aA bO aw aV
attribute [local irreducible] a8 aY an aE aZ am br fb kY cG ay
def oUD : U Qd := ⟨⟨⟨oQ, oQ, false⟩, ⟨oQ, oQ, false⟩, false, false⟩, ⟨oQ, oQ, oQ⟩⟩
instance yI7_1 : Sz Tryz.prog 232 32 := ⟨Tryz.sizeOf232⟩
instance yI7_2 : Ag Tryz.prog 232 true := ⟨Tryz.isAgg232⟩
instance yI7_3 : Un Tryz.prog 118 (.slice 232) := ⟨Tryz.runUnderlying118⟩
instance yI7_4 : Fl Tryz.prog 232 0 86 0 := ⟨⟨_, _, uu232, rfl, rfl, rfl⟩⟩
instance yI7_5 : Fl Tryz.prog 232 1 53 20 := ⟨⟨_, _, uu232, rfl, rfl, rfl⟩⟩
instance yI7_6 : Zc Tryz.prog 232 (cUD oUD) := ⟨⟨_, vv232, rfl⟩⟩
instance yI7_7 : Sh Tryz.prog 232 (U Qd) vUD := ⟨trivial⟩
theorem xG : BuildF Tryz.prog 232 (cUD oUD) [(0, 20), (20, 12)] := BuildF.of vv232 rfl uu232 (by intro w; simp [zz86, zz53])
instance yI7_8 (x : Iv) (f : Qd) : Bu Tryz.prog 232 [0, 1] [vV x, vD f] (vUD (⟨x, f⟩ : U Qd)) := Bu.of xG rfl rfl
theorem m7 : SlT Tryz.prog 118 232 32 360 (cUD oUD) := ⟨Tryz.underlying118, Tryz.t232, _, Tryz.type232, rfl, rfl, rfl, rfl, rfl, by decide, by decide⟩
instance yI7_9 : Cf Tryz.prog 237 := ⟨Tryz.call237⟩
instance yI7_10 : Cf Tryz.prog 173 := ⟨Tryz.call173⟩
instance yI7_11 : Cf Tryz.prog 174 := ⟨Tryz.call174⟩
theorem rules_ct (w0 : World) : Calls Tryz.prog 238 #[] w0 (dI w0 (.iface 55 (.agg #[])) True) := by
 refine enter (N := 3) (args := []) Tryz.func238 rfl rfl ?_; intro ac h
 refine gz h <| (W) ?_; clear h ac; intro ac wo h
 exact (rt h) (h.retP rfl trivial)
theorem wE (l : List (U Qd)) (lv : Value) (hl : l.length ≤ 1000) (w0 : World) (hlv : View w0 lv l) : Calls Tryz.prog 239 #[lv] w0 (RetR w0 126 l True) := by
 refine enter (N := 22) (args := [lv]) Tryz.func239 rfl rfl ?_; intro ac h
 have hlen := hlv.len
 refine gz h <| (W) ?_; clear h ac; intro ac wo h
 replace h := h.nilRow (α := U Qd) 126
 refine wp_loop_ghost (fun n_ a_ w_ => ∃ (i : Nat) (sv : Value), (l.length - i < n_) ∧ (i ≤ l.length) ∧ St w0 22 [(3, sv), (6, lv), (7, iN l.length), (8, iN i)] [.row (α := U Qd) 126 sv (l.take i)] a_ w_) (l.length + 1) ⟨0, _, by omega, by omega, h.re [0]⟩ ?_
 clear h ac wo; rintro n1 ac wo ⟨i, sv, hm1, hi, h⟩
 obtain ⟨m1, rfl⟩ : ∃ m, n1 = m + 1 := ⟨n1 - 1, by omega⟩
 refine gz h <| (ai) ?_ ?_ <;> clear h ac wo <;> intro ac wo h hc1
 ·
  have hd1 := of_decide_eq_true hc1
  refine gz h <| (xa) fun b1 => (W) ?_; clear h ac wo; intro ac wo h
  refine nw h (cj (α := U Qd) (xs := [.tmp 17]) (vs := [vUD (gt l i)]) [gt l i] iS rfl rfl rfl (by decide)) rfl ?_; clear h ac wo; intro s1 ac wo _ h
  refine on2 h 2 0 rfl rfl (eM (xs := l.take i) (ys := [gt l i]) iS (fun w hs => (row_view hs 0 rfl)) rfl rfl (by rw [List.length_take]; show _ + 1 ≤ _; omega)) rfl ?_; clear h ac wo; intro s2 ac wo _ h
  rw [jx (by omega)] at h
  refine gz h <| (W) ?_; clear h ac wo; intro ac wo h
  exact az ⟨m1, by omega, i + 1, s2, by omega, by omega, h.re [0]⟩
 ·
  have hd1 := of_decide_eq_false hc1
  obtain rfl : i = l.length := by omega
  rw [List.take_length] at h
  refine gz h <| (W) ?_; clear h ac wo; intro ac wo h
  exact (rt h) (h.retR 0 rfl trivial)
theorem nnums_ct (l : List (U Qd)) (lv : Value) (hl : l.length ≤ 1000) (w0 : World) (hlv : View w0 lv l) : Calls Tryz.prog 240 #[lv] w0 (RetR w0 232 l True) := by
 refine enter (N := 22) (args := [lv]) Tryz.func240 rfl rfl ?_; intro ac h
 have hlen := hlv.len
 refine gz h <| (W) ?_; clear h ac; intro ac wo h
 replace h := h.nilRow (α := U Qd) 232
 refine wp_loop_ghost (fun n_ a_ w_ => ∃ (i : Nat) (sv : Value), (l.length - i < n_) ∧ (i ≤ l.length) ∧ St w0 22 [(3, sv), (6, lv), (7, iN l.length), (8, iN i)] [.row (α := U Qd) 232 sv (l.take i)] a_ w_) (l.length + 1) ⟨0, _, by omega, by omega, h.re [0]⟩ ?_
 clear h ac wo; rintro n1 ac wo ⟨i, sv, hm1, hi, h⟩
 obtain ⟨m1, rfl⟩ : ∃ m, n1 = m + 1 := ⟨n1 - 1, by omega⟩
 refine gz h <| (ai) ?_ ?_ <;> clear h ac wo <;> intro ac wo h hc1
 ·
  have hd1 := of_decide_eq_true hc1
  refine gz h <| (xa) fun b1 => (W) ?_; clear h ac wo; intro ac wo h
  refine nw h (cj (α := U Qd) (xs := [.tmp 17]) (vs := [vUD (gt l i)]) [gt l i] m7 rfl rfl rfl (by decide)) rfl ?_; clear h ac wo; intro s1 ac wo _ h
  refine on2 h 2 0 rfl rfl (eM (xs := l.take i) (ys := [gt l i]) m7 (fun w hs => (row_view hs 0 rfl)) rfl rfl (by rw [List.length_take]; show _ + 1 ≤ _; omega)) rfl ?_; clear h ac wo; intro s2 ac wo _ h
  rw [jx (by omega)] at h
  refine gz h <| (W) ?_; clear h ac wo; intro ac wo h
  exact az ⟨m1, by omega, i + 1, s2, by omega, by omega, h.re [0]⟩
 ·
  have hd1 := of_decide_eq_false hc1
  obtain rfl : i = l.length := by omega
  rw [List.take_length] at h
  refine gz h <| (W) ?_; clear h ac wo; intro ac wo h
  exact (rt h) (h.retR 0 rfl trivial)
theorem jI (l : List (U Qd)) (lv : Value) (hl : l.length < 20) (zl : All (iI 30) l) (w0 : World) (hlv : View w0 lv l) : Calls Tryz.prog 170 #[lv] w0 (RetT w0 232 (cp l).1 [.int .i64 (cp l).2] (All (iI 20) (cp l).1 ∧ (cp l).1.length ≤ 3 * l.length)) := by
 refine enter (N := 16) (args := [lv]) Tryz.func170 rfl rfl ?_; intro ac h
 have p1 := RetT.pr (jj l lv hl zl w0 hlv)
 refine gz h <| (xk rules_ct) <| (W) ?_; clear h ac; intro ac wo h
 refine f4 (xs := l) h (ch Tryz.call239 rfl) (fun w_ hB_ hS_ => wE l lv (by omega) w_ (hlv.below hB_)) rfl ?_; clear h ac wo; intro s1 ac wo _ h
 refine gz h <| (W) ?_; clear h ac wo; intro ac wo h
 refine pi (xs := (cp l).1) h (ch Tryz.call55 rfl) (fun w_ hB_ hS_ => jj l s1 hl zl w_ (row_view hS_ 0 rfl)) rfl ?_; clear h ac wo; intro s2 ac wo _ h
 refine gz h <| (W) ?_; clear h ac wo; intro ac wo h
 refine f4 (xs := (cp l).1) h (ch Tryz.call240 rfl) (fun w_ hB_ hS_ => nnums_ct _ s2 (by omega) w_ (row_view hS_ 0 rfl)) rfl ?_; clear h ac wo; intro s3 ac wo _ h
 refine gz h <| (W) ?_; clear h ac wo; intro ac wo h
 exact (rt h) (h.retT 0 rfl rfl p1)
def qU (q : Ln → Qd) (u : U Ln) : U Qd := ⟨u.iv, q u.f⟩
theorem num1_ct (u : U Ln) (b : Nat) (fid : FuncId) (q : Ln → Qd) (hc : ∀ args w, (callFunc fid args).run Tryz.prog w = .ok (.enter fid args) w) (hq : ∀ w, Calls Tryz.prog fid #[vN u.f] w (dI w (vD (q u.f)) True)) (w0 : World) (hb : PV w0 b [.func (.func fid) #[] #[]]) :
    Calls Tryz.prog 237 #[vUN u, ptr b 0] w0 (dI w0 (vUD (qU q u)) True) := by
 refine enter (N := 11) (args := [vUN u, ptr b 0]) Tryz.func237 rfl rfl ?_; intro ac h
 haveI : Cf Tryz.prog fid := ⟨hc⟩
 refine gz h <| (xb) fun b2 => (xa) fun b3 => (dr1 (H := [⟨.blk b3 (cUD oUD) 232, [(7, .con (.blk b3 (cUD (qU q u)) 232))]⟩, ⟨_, []⟩]) (hob := (oX (h := by exact fun _ => bk (r_ldP hb Tryz.isAgg156 Tryz.sizeOf156 rfl rfl rfl rfl))) <| (oX (h := by exact fun _ => g8 (fu (ent_w hc rfl rfl rfl) (kk hq)))) <| oE)) <| (W) ?_; clear h ac; intro ac wo h
 exact rtc 0 h (h.retP (u := vUD (qU q u)) rfl trivial)
end Go.Sx
namespace Go.Sx
open Go Go.RowKit Go.Proofs
set_option maxRecDepth 100000
set_option maxHeartbeats 40000000
attribute [local irreducible] Code.wp wpList Rd Step ObS Ent
attribute [local irreducible] ap aN ak au aA bO aw aV
attribute [local irreducible] a8 aY an aE aZ am br fb kY cG ay
structure FnL (fid : FuncId) (q : Ln → Qd) (l : List (U Ln)) : Prop where
  hc : ∀ args w, (callFunc fid args).run Tryz.prog w = .ok (.enter fid args) w
  hq : ∀ u ∈ l, ∀ w, Calls Tryz.prog fid #[vN u.f] w (dI w (vD (q u.f)) True)
theorem mapN_ct (l : List (U Ln)) (lv : Value) (b : Nat) (fid : FuncId) (q : Ln → Qd) (hf : FnL fid q l) (hl : l.length ≤ 1000) (w0 : World) (hlv : View w0 lv l) (hb : PV w0 b [.func (.func fid) #[] #[]]) : Calls Tryz.prog 236 #[lv, .func (.func 237) #[] #[ptr b 0]] w0 (RetR w0 232 (l.map (qU q)) True) := by
 refine enter (N := 22) (args := [lv, .func (.func 237) #[] #[ptr b 0]]) Tryz.func236 rfl rfl ?_; intro ac h
 have hlen := hlv.len
 refine gz h <| (W) ?_; clear h ac; intro ac wo h
 replace h := h.nilRow (α := U Qd) 232
 refine wp_loop_ghost (fun n_ a_ w_ => ∃ (i : Nat) (sv : Value), (l.length - i < n_) ∧ (i ≤ l.length) ∧ St w0 22 [(1, .func (.func 237) #[] #[ptr b 0]), (5, sv), (8, lv), (9, iN l.length), (10, iN i)] [.row (α := U Qd) 232 sv ((l.take i).map (qU q))] a_ w_) (l.length + 1) ⟨0, _, by omega, by omega, h.re [0]⟩ ?_
 clear h ac wo; rintro n1 ac wo ⟨i, sv, hm1, hi, h⟩
 obtain ⟨m1, rfl⟩ : ∃ m, n1 = m + 1 := ⟨n1 - 1, by omega⟩
 refine gz h <| (ai) ?_ ?_ <;> clear h ac wo <;> intro ac wo h hc1
 ·
  have hd1 : i < l.length := by have := of_decide_eq_true hc1; omega
  have hu : gt l i ∈ l := wZ hd1
  refine gz h <| (xa) fun b1 => (xc (ct := by exact fun w_ hB_ hS_ => num1_ct (gt l i) b fid q hf.hc (hf.hq _ hu) w_ (hb.below hB_))) <| (W) ?_; clear h ac wo; intro ac wo h
  refine nw h (cj (α := U Qd) (xs := [.tmp 17]) (vs := [vUD (qU q (gt l i))]) [qU q (gt l i)] m7 rfl rfl rfl (by decide)) rfl ?_; clear h ac wo; intro s1 ac wo _ h
  refine on2 h 2 0 rfl rfl (eM (xs := (l.take i).map (qU q)) (ys := [qU q (gt l i)]) m7 (fun w hs => (row_view hs 0 rfl)) rfl rfl (by rw [List.length_map, List.length_take]; show _ + 1 ≤ _; omega)) rfl ?_; clear h ac wo; intro s2 ac wo _ h
  rw [show (l.take i).map (qU q) ++ [qU q (gt l i)] = (l.take (i + 1)).map (qU q) by rw [← jx hd1, List.map_append]; rfl] at h
  refine gz h <| (W) ?_; clear h ac wo; intro ac wo h
  exact az ⟨m1, by omega, i + 1, s2, by omega, by omega, h.re [0]⟩
 ·
  have hd1 := of_decide_eq_false hc1
  obtain rfl : i = l.length := by omega
  rw [List.take_length] at h
  refine gz h <| (W) ?_; clear h ac wo; intro ac wo h
  exact (rt h) (h.retR 0 rfl trivial)
def nOf (q : Ln → Qd) (l : List (U Ln)) : List (U Qd) := (cp (l.map (qU q))).1
theorem jH (l : List (U Ln)) (lv : Value) (fid : FuncId) (q : Ln → Qd) (hf : FnL fid q l) (hl : l.length < 20) (zl : All (iI 30) (l.map (qU q))) (w0 : World) (hlv : View w0 lv l) : Calls Tryz.prog 169 #[lv, .func (.func fid) #[] #[]] w0 (RetR w0 232 (nOf q l) ((nOf q l).length ≤ 1000)) := by
 refine enter (N := 15) (args := [lv, .func (.func fid) #[] #[]]) Tryz.func169 rfl rfl ?_; intro ac h
 haveI : Cel (Value.func (.func fid) #[] #[]) [.func (.func fid) #[] #[]] := ⟨rfl⟩
 refine gz h <| (xb) fun b3 => (xo (hs := by exact lE (vs := [ptr b3 0]) rfl)) <| (W) ?_; clear h ac; intro ac wo h
 refine f4 (xs := l.map (qU q)) h (ch Tryz.call236 rfl) (fun w_ hB_ hS_ => mapN_ct l lv b3 fid q hf (by omega) w_ (hlv.below hB_) (blk_pv hS_ 0 rfl)) rfl ?_; clear h ac wo; intro s1 ac wo _ h
 have p1 := RetT.pr (jI (l.map (qU q)) s1 (by rw [List.length_map]; exact hl) zl wo (row_view h.sep 0 rfl))
 rw [List.length_map] at p1
 refine gz h <| (W) ?_; clear h ac wo; intro ac wo h
 refine pi (xs := nOf q l) h (ch cc170 rfl) (fun w_ hB_ hS_ => jI (l.map (qU q)) s1 (by rw [List.length_map]; exact hl) zl w_ (row_view hS_ 0 rfl)) rfl ?_; clear h ac wo; intro s2 ac wo _ h
 refine gz h <| (W) ?_; clear h ac wo; intro ac wo h
 exact (rt h) (h.retR 0 rfl (by unfold nOf; omega))
theorem X_ct (l : List (U Ln)) (lv : Value) (hf : FnL 102 lxs l) (hl : l.length < 20) (zl : All (iI 30) (l.map (qU lxs))) (w0 : World) (hlv : View w0 lv l) : Calls Tryz.prog 68 #[lv] w0 (RetR w0 232 (nOf lxs l) ((nOf lxs l).length ≤ 1000)) := by
 refine enter (N := 5) (args := [lv]) Tryz.func68 rfl rfl ?_; intro ac h
 have p1 := RetR.pr (jH l lv 102 lxs hf hl zl w0 hlv)
 refine gz h <| (W) ?_; clear h ac; intro ac wo h
 refine f4 (xs := nOf lxs l) h (ch cc169 rfl) (fun w_ hB_ hS_ => jH l lv 102 lxs hf hl zl w_ (hlv.below hB_)) rfl ?_; clear h ac wo; intro s1 ac wo _ h
 refine gz h <| (W) ?_; clear h ac wo; intro ac wo h
 exact (rt h) (h.retR 0 rfl p1)
theorem Y_ct (l : List (U Ln)) (lv : Value) (hf : FnL 103 lys l) (hl : l.length < 20) (zl : All (iI 30) (l.map (qU lys))) (w0 : World) (hlv : View w0 lv l) : Calls Tryz.prog 70 #[lv] w0 (RetR w0 232 (nOf lys l) ((nOf lys l).length ≤ 1000)) := by
 refine enter (N := 5) (args := [lv]) Tryz.func70 rfl rfl ?_; intro ac h
 have p1 := RetR.pr (jH l lv 103 lys hf hl zl w0 hlv)
 refine gz h <| (W) ?_; clear h ac; intro ac wo h
 refine f4 (xs := nOf lys l) h (ch cc169 rfl) (fun w_ hB_ hS_ => jH l lv 103 lys hf hl zl w_ (hlv.below hB_)) rfl ?_; clear h ac wo; intro s1 ac wo _ h
 refine gz h <| (W) ?_; clear h ac wo; intro ac wo h
 exact (rt h) (h.retR 0 rfl p1)
def cQ2 (y : Bool) : Ln → Qd := bif y then lys else lxs
theorem t6 (l : List (U Ln)) (lv : Value) (y : Bool) (zf : ∀ i, SzN 40 (gt l i).f) (hl : l.length < 20) (zl : All (iI 30) (l.map (qU (cQ2 y)))) (w0 : World) (hlv : View w0 lv l) : Calls Tryz.prog 69 #[lv, .bool y] w0 (RetR w0 232 (nOf (cQ2 y) l) ((nOf (cQ2 y) l).length ≤ 1000)) := by
 refine enter (N := 43) (args := [lv, .bool y]) Tryz.func69 rfl rfl ?_; intro ac h
 have hlen := hlv.len
 refine gz h <| (W) ?_; clear h ac; intro ac wo h
 replace h := h.nilRow (α := U Qd) 232
 refine wp_loop_ghost (fun n_ a_ w_ => ∃ (i : Nat) (sv : Value), (l.length - i < n_) ∧ (i ≤ l.length) ∧ St w0 43 [(0, lv), (1, .bool y), (5, sv), (6, iN i)] [.row (α := U Qd) 232 sv ((l.take i).map (qU (cQ2 y)))] a_ w_) (l.length + 1) ⟨0, _, by omega, by omega, h.re [0]⟩ ?_
 clear h ac wo; rintro n1 ac wo ⟨i, sv, hm1, hi, h⟩
 obtain ⟨m1, rfl⟩ : ∃ m, n1 = m + 1 := ⟨n1 - 1, by omega⟩
 refine gz h <| (ai) ?_ ?_ <;> clear h ac wo <;> intro ac wo h hc1
 ·
  have hd1 : i < l.length := by have := of_decide_eq_true hc1; omega
  have n1' := hlv.nn hd1
  have c1 := vxs_ct (gt l i).f 40 og (zf i)
  have c2 := vys_ct (gt l i).f 40 og (zf i)
  refine gz h <| (xk c1) <| (xa) fun b7 => (W) ?_; clear h ac wo; intro ac wo h
  refine jn (fun a w => St w0 43 [(0, lv), (1, .bool y), (5, sv), (6, iN i), (7, ptr b7 0)] [.row (α := U Qd) 232 sv ((l.take i).map (qU (cQ2 y))), .blk b7 (cD (cQ2 y (gt l i).f)) 53] a w) ?_ ?_
  ·
   refine gz h <| (ai) ?_ ?_ <;> clear h ac wo <;> intro ac wo h hc2
   · subst hc2
     refine gz h <| (xk c2) <| (W) ?_; clear h ac wo; intro ac wo h
     exact ⟨rfl, h.re [1, 0]⟩
   · subst hc2
     refine gz h <| (W) ?_; clear h ac wo; intro ac wo h
     exact ⟨rfl, h.re [1, 0]⟩
  ·
   clear h ac wo; intro ac wo h
   refine gz h <| (W) ?_; clear h ac wo; intro ac wo h
   replace h := h.emps 1
   obtain ⟨x, hx⟩ : ∃ x : U Qd, (⟨(gt l i).iv, cQ2 y (gt l i).f⟩ : U Qd) = x := ⟨_, rfl⟩
   obtain ⟨o, ho⟩ : ∃ o, (l.take i).map (qU (cQ2 y)) = o := ⟨_, rfl⟩
   have hol : o.length ≤ i := by rw [← ho, List.length_map, List.length_take]; omega
   rw [ho] at h
   refine fo mixed [dv _, dv _, dv _, dv _, dv _, dv (vV (gt l i).iv), dw (vD (cQ2 y (gt l i).f)) [1], dv (vUD x), ⟨.nd (.one 8 fun v => NN v 1), [2]⟩, ⟨.nd (.con True), [0, 2]⟩, ⟨.nd (.two 10 9 fun a b => a = b), []⟩]
    [⟨.row (α := U Qd) 232 sv o, [(9, .one 9 fun v => .row (α := U Qd) 232 v (o ++ [x]))]⟩, ⟨_, []⟩, ⟨.emp, [(8, .one 8 fun v => .row (α := U Qd) 232 v [x])]⟩] h rfl (by kernel_rfl)
    ⟨oA obA, oA obA, oA obA, oA obA, oA obA, oA obA, oA obA, (by rw [← hx]; exact oA fun _ => bk (bA xG rfl rfl rfl)), fun _ _ => nu 2 x m7 rfl rfl, fun _ _ => sG (j := 8) 0 2 m7 rfl rfl (by omega) rfl (fun v => by simp only [dx, bD] <;> rfl), fun _ _ => qj (j := 9) (by decide) rfl, trivial⟩ ?_
   clear h ac wo; intro ξ ac wo hφ h
   replace h : St w0 43 [(0, lv), (1, .bool y), (5, ξ 10), (6, iN i)] [.row (α := U Qd) 232 (ξ 9) (o ++ [x])] ac wo := (h.pick [0] (by decide)).sub ⟨rfl, rfl, rfl, rfl, trivial⟩
   rw [show ξ 10 = ξ 9 from hφ 10, ← ho, ← hx, show (l.take i).map (qU (cQ2 y)) ++ [⟨(gt l i).iv, cQ2 y (gt l i).f⟩] = (l.take (i + 1)).map (qU (cQ2 y)) by rw [← jx hd1, List.map_append]; rfl] at h
   generalize ξ 9 = s2 at h; clear hφ ξ
   refine gz h <| (W) ?_; clear h ac wo; intro ac wo h
   exact az ⟨m1, by omega, i + 1, s2, by omega, by omega, h.re [0]⟩
 ·
  have hd1 := of_decide_eq_false hc1
  obtain rfl : i = l.length := by omega
  rw [List.take_length] at h
  have p1 := RetT.pr (jI (l.map (qU (cQ2 y))) sv (by rw [List.length_map]; exact hl) zl wo (row_view h.sep 0 rfl))
  rw [List.length_map] at p1
  refine gz h <| (W) ?_; clear h ac wo; intro ac wo h
  refine pi (xs := nOf (cQ2 y) l) h (ch cc170 rfl) (fun w_ hB_ hS_ => jI (l.map (qU (cQ2 y))) sv (by rw [List.length_map]; exact hl) zl w_ (row_view hS_ 0 rfl)) rfl ?_; clear h ac wo; intro s2 ac wo _ h
  refine gz h <| (W) ?_; clear h ac wo; intro ac wo h
  exact (rt h) (h.retR 0 rfl (by unfold nOf; omega))
end Go.Sx
namespace Go.Sx
open Go Go.RowKit Go.Proofs
set_option maxRecDepth 100000
set_option maxHeartbeats 40000000
attribute [local irreducible] Code.wp wpList Rd Step ObS Ent
attribute [local irreducible] ap aN ak au aA bO aw aV
attribute [local irreducible] a8 aY an aE aZ am br fb kY cG ay
def qC (u : U Ln) : Bool := decide (u.iv.lo = u.iv.hi)
theorem ins_ct (u : U Ln) (w0 : World) : Calls Tryz.prog 173 #[vUN u] w0 (dI w0 (.bool (qC u)) True) := by
 refine enter (N := 10) (args := [vUN u]) Tryz.func173 rfl rfl ?_; intro ac h
 refine gz h <| (xb) fun b1 => (W) ?_; clear h ac; intro ac wo h
 exact (rt h) (h.retP rfl trivial)
theorem insV_ct (i : Iv) (w0 : World) : Calls Tryz.prog 175 #[vV i] w0 (dI w0 (.bool (decide (i.lo = i.hi))) True) := by
 refine enter (N := 8) (args := [vV i]) Tryz.func175 rfl rfl ?_; intro ac h
 refine gz h <| (xb) fun b1 => (W) ?_; clear h ac; intro ac wo h
 exact (rt h) (h.retP rfl trivial)
def sp2 (f : Ln) : GQ := aE (an f.x1 f.x1) (an f.y1 f.y1)
def me (f : Ln) : Qd := aA (sp2 f)
theorem sp_ct (f : Ln) (z : SzN 40 f) (w0 : World) : Calls Tryz.prog 174 #[vN f] w0 (dI w0 (vD (me f)) (SzD 35 (me f))) := by
 refine enter (N := 15) (args := [vN f]) Tryz.func174 rfl rfl ?_; intro ac h
 have c1 := be f.x1 f.x1 38 og (cO z.2.1 og) (cO z.2.1 og)
 have c2 := be f.y1 f.y1 38 og (cO z.2.2.2 og) (cO z.2.2.2 og)
 have c3 := cd (an f.x1 f.x1) (an f.y1 f.y1) 35 og (ao (c1 w0)) (ao (c2 w0))
 have c4 := gG (sp2 f) 35 og (ao (c3 w0))
 refine gz h <| (xb) fun b1 => (xa) fun b2 => (dr1 (H := [⟨.blk b2 (cD ⟨oQ, oQ, oQ⟩) 53, [(12, .con (.blk b2 (cD (me f)) 53))]⟩, ⟨_, []⟩]) (hob := (oK c1) <| (oK c2) <| (oK c3) <| (oK c4) <| oE)) <| (W) ?_; clear h ac; intro ac wo h
 exact rtc 0 h (h.retP (u := vD (me f)) rfl (ao (c4 w0)))
def ixI (l : List (U Ln)) : Int := if l.findIdx qC = l.length then -1 else ((l.findIdx qC : Nat) : Int)
theorem ix_ct (l : List (U Ln)) (lv : Value) (hl : l.length ≤ 1000) (w0 : World) (hlv : View w0 lv l) : Calls Tryz.prog 241 #[lv, .func (.func 173) #[] #[]] w0 (dI w0 (.int .i64 (ixI l)) True) := by
 refine enter (N := 19) (args := [lv, .func (.func 173) #[] #[]]) Tryz.func241 rfl rfl ?_; intro ac h
 have hlen := hlv.len
 refine gz h <| (W) ?_; clear h ac; intro ac wo h
 refine wp_loop_ghost (fun n_ a_ w_ => ∃ (i : Nat), (l.length - i < n_) ∧ (i ≤ l.length) ∧ (∀ j, j < i → qC (gt l j) = false) ∧ St w0 19 [(0, lv), (1, .func (.func 173) #[] #[]), (7, iN l.length), (8, iN i)] [] a_ w_) (l.length + 1) ⟨0, by omega, by omega, fun j hj => by omega, h.rs⟩ ?_
 clear h ac wo; rintro n1 ac wo ⟨i, hm1, hi, hB, h⟩
 obtain ⟨m1, rfl⟩ : ∃ m, n1 = m + 1 := ⟨n1 - 1, by omega⟩
 refine gz h <| (ai) ?_ ?_ <;> clear h ac wo <;> intro ac wo h hc1
 ·
  have hd1 : i < l.length := by have := of_decide_eq_true hc1; omega
  refine gz h <| (xk (ins_ct (gt l i))) <| (ai) ?_ ?_ <;> clear h ac wo <;> intro ac wo h hc2
  ·
   have hx : l.findIdx qC = i := (List.findIdx_eq hd1).2 ⟨by rw [← g7 hd1]; exact hc2, fun j hj => by rw [← g7 (by omega : j < l.length)]; exact hB j hj⟩
   have e : ixI l = (i : Int) := by unfold ixI; rw [hx, if_neg (by omega)]
   refine gz h <| (W) ?_; clear h ac wo; intro ac wo h
   exact (rt h) (h.retP (by rw [e] <;> rfl) trivial)
  ·
   refine gz h <| (W) ?_; clear h ac wo; intro ac wo h
   refine az ⟨m1, by omega, i + 1, by omega, by omega, fun j hj => ?_, h.re []⟩
   by_cases e : j = i
   · rw [e]; exact hc2
   · exact hB j (by omega)
 ·
  have hd1 := of_decide_eq_false hc1
  obtain rfl : i = l.length := by omega
  have hx : l.findIdx qC = l.length := List.findIdx_eq_length.2 fun x hx => by
   obtain ⟨j, hj, e⟩ := List.getElem_of_mem hx
   rw [← e, ← g7 hj]; exact hB j hj
  have e : ixI l = -1 := by unfold ixI; rw [if_pos hx]
  refine gz h <| (W) ?_; clear h ac wo; intro ac wo h
  exact (rt h) (h.retP (by rw [e] <;> rfl) trivial)
def gO (l : List (U Ln)) : List (U Ln) := l.filter fun u => !qC u
theorem wX {l : List (U Ln)} (h : ixI l = -1) : gO l = l := by
 unfold ixI at h
 split at h
 · rename_i e
   rw [List.findIdx_eq_length] at e
   unfold gO
   exact List.filter_eq_self.2 fun u hu => by rw [e u hu]; rfl
 · omega
theorem ix_at {l : List (U Ln)} (h : ixI l ≠ -1) : ∃ k, k < l.length ∧ ixI l = (k : Int) ∧ qC (gt l k) = true ∧ ∀ j, j < k → qC (gt l j) = false := by
 unfold ixI at h ⊢
 split at h
 · exact absurd rfl h
 · rename_i e
   have hlt : l.findIdx qC < l.length := Nat.lt_of_le_of_ne List.findIdx_le_length e
   obtain ⟨h1, h2⟩ := (List.findIdx_eq hlt).1 rfl
   refine ⟨l.findIdx qC, hlt, by rw [if_neg e], by rw [g7 hlt]; exact h1, fun j hj => ?_⟩
   rw [g7 (by omega)]; exact h2 j hj
theorem kt {l : List (U Ln)} {j : Nat} (h : j < l.length) : gO (l.take (j + 1)) = gO (l.take j) ++ (if qC (gt l j) = true then [] else [gt l j]) := by
 unfold gO
 rw [← jx h, List.filter_append]
 congr 1
 by_cases e : qC (gt l j) = true
 · rw [if_pos e]; simp [e]
 · rw [if_neg e]
   have e2 : qC (gt l j) = false := by simpa using e
   simp [e2]
theorem wW {l : List (U Ln)} {k : Nat} (hk : k < l.length) (h : ∀ j, j < k → qC (gt l j) = false) : gO (l.take k) = l.take k := by
 unfold gO
 refine List.filter_eq_self.2 fun u hu => ?_
 obtain ⟨j, hj, e⟩ := List.getElem_of_mem hu
 rw [List.length_take] at hj
 rw [List.getElem_take, ← g7 (by omega : j < l.length)] at e
 rw [← e, h j (by omega)]; rfl
theorem take_set {xs : List (U Ln)} {i : Nat} {u : U Ln} (h : i < xs.length) : (xs.set i u).take (i + 1) = xs.take i ++ [u] := by
 rw [List.take_succ_eq_append_getElem (by rw [List.length_set]; exact h), List.getElem_set_self, List.take_set_of_le (Nat.le_refl _)]
theorem del_ct (l : List (U Ln)) (lv : Value) (hl : l.length ≤ 1000) (w0 w : World) (B : Asn) (hbel : Below w0.heap.size w0 w) (hsep : ∃ Z_, Sep w0.heap.size w [.row (α := U Ln) 88 lv l, B] Z_) :
    Calls Tryz.prog 171 #[lv, .func (.func 173) #[] #[]] w (RetY w0 (fun _ => True) (fun v => [.row (α := U Ln) 88 v (gO l), B])) := by
 refine jP (N := 42) (args := [lv, .func (.func 173) #[] #[]]) Tryz.func171 rfl rfl hbel hsep ?_; intro ac h
 have hvw := h.row_view 0 rfl
 have hlen := h.len 0 rfl
 refine gz h <| (W) ?_; clear h ac; intro ac wo h
 refine gz h <| (xc (ct := by exact fun w_ hB_ hS_ => ix_ct l lv hl w_ (row_view hS_ 0 rfl))) <| (ai) ?_ ?_ <;> clear h ac wo <;> intro ac wo h hc1
 ·
  have e : ixI l = -1 := by simpa using hc1
  refine gz h <| (W) ?_; clear h ac wo; intro ac wo h
  exact (rt h) ((h.pick [0, 1] (by decide)).retY trivial (by rw [wX e]; rfl))
 ·
  have e : ixI l ≠ -1 := by
   intro e; rw [e] at hc1; simp at hc1
  obtain ⟨k, hk, hke, hins, hpre⟩ := ix_at e
  rw [hke] at h
  have hnn := hvw.nn hk
  refine gz h <| (W) ?_; clear h ac wo; intro ac wo h
  refine wp_loop_ghost (fun n_ a_ w_ => ∃ (i j : Nat) (xs : List (U Ln)), (l.length - j < n_) ∧ (j ≤ l.length) ∧ (i < j) ∧ (xs.length = l.length) ∧ (xs.take i = gO (l.take j)) ∧ (∀ t, j ≤ t → gt xs t = gt l t) ∧ St w0 42 [(0, lv), (1, .func (.func 173) #[] #[]), (5, iN i), (6, iN j)] [.row (α := U Ln) 88 lv xs, B] a_ w_) (l.length + 1)
   ⟨k, k + 1, l, by omega, by omega, by omega, rfl, by rw [kt hk, if_pos hins, List.append_nil, wW hk hpre], fun _ _ => rfl, h.re [0, 1]⟩ ?_
  clear h ac wo; rintro n1 ac wo ⟨i, j, xs, hm1, hj, hij, hxl, hxt, hxs, h⟩
  obtain ⟨m1, rfl⟩ : ∃ m, n1 = m + 1 := ⟨n1 - 1, by omega⟩
  have hsl : SL lv l.length := by rw [← hxl]; exact h.row_sl 0 rfl
  refine gz h <| (ai) ?_ ?_ <;> clear h ac wo <;> intro ac wo h hc2
  ·
   have hd1 : j < l.length := by have := of_decide_eq_true hc2; omega
   have hjx : gt xs j = gt l j := hxs j (Nat.le_refl _)
   obtain ⟨u, hu⟩ : ∃ u, gt xs j = u := ⟨_, rfl⟩
   have hxx : xs[j]? = some u := by rw [← hu]; exact iE (by omega)
   refine gz h <| (xa) fun b7 => (xk (ins_ct (gt xs j))) <| (W) ?_; clear h ac wo; intro ac wo h
   rw [hu] at h
   refine gz h <| (ai) ?_ ?_ <;> clear h ac wo <;> intro ac wo h hc3
   ·
    have hins' : qC u = false := by simpa using hc3
    have hnx : NN lv xs.length := by rw [hxl]; exact hnn
    have hil : i < xs.length := by omega
    refine gz h <| (W) ?_; clear h ac wo; intro ac wo h
    refine up h 1 rfl (f8 (k := 0) (u' := u) zz88 (iE hil) rfl (Nat.add_zero _) rfl rfl rfl rfl rfl rfl) ?_; clear h ac wo; intro ac wo h
    refine gz h <| (W) ?_; clear h ac wo; intro ac wo h
    refine az ⟨m1, by omega, i + 1, j + 1, xs.set i u, by omega, by omega, by omega, by rw [List.length_set]; exact hxl, ?_, fun t ht => ?_, h.re [1, 2]⟩
    · rw [take_set hil, hxt, kt hd1, if_neg (by rw [← hjx, hu, hins']; decide), ← hjx, hu]
    · rw [rK (by omega)]; exact hxs t (by omega)
   ·
    have hins' : qC u = true := by simpa using hc3
    refine gz h <| (W) ?_; clear h ac wo; intro ac wo h
    refine az ⟨m1, by omega, i, j + 1, xs, by omega, by omega, by omega, hxl, ?_, fun t ht => hxs t (by omega), h.re [1, 2]⟩
    rw [hxt, kt hd1, if_pos (by rw [← hjx, hu]; exact hins'), List.append_nil]
  ·
   obtain rfl : j = l.length := by have := of_decide_eq_false hc2; omega
   rw [List.take_length] at hxt
   refine gz h <| (W) ?_; clear h ac wo; intro ac wo h
   have hil : i ≤ xs.length := by omega
   refine gz h <| (xo (hs := by exact r_from (n := i) uu33 zz88 rfl rfl (h.row_view 0 rfl) hil)) <| (W) ?_; clear h ac wo; intro ac wo h
   refine upT h 0 rfl (s_clear uu33 Tryz.zeroValue88 rfl rfl rfl (k := i) hil (by omega)) ?_; clear h ac wo; intro ac wo h
   refine gz h <| (xo (hs := by exact r_cut (n := i) uu33 zz88 rfl rfl hvw (by omega))) <| (W) ?_; clear h ac wo; intro ac wo h
   rw [hxt] at h
   exact (rt h) ((h.pick [0, 1] (by decide)).retY trivial rfl)
end Go.Sx
namespace Go.Sx
open Go Go.RowKit Go.Proofs
set_option maxRecDepth 100000
set_option maxHeartbeats 40000000
attribute [local irreducible] Code.wp wpList Rd Step ObS Ent
attribute [local irreducible] ap aN ak au aA bO aw aV
attribute [local irreducible] a8 aY an aE aZ am br fb kY cG ay
theorem clone_ct (s : List (U Ln)) (sv : Value) (hl : s.length ≤ 1000) (w0 : World) (hsv : View w0 sv s) : Calls Tryz.prog 172 #[sv] w0 (RetR w0 88 s True) := by
 refine enter (N := 8) (args := [sv]) Tryz.func172 rfl rfl ?_; intro ac h
 have hlens := hsv.len
 refine gz h <| (xo (hs := by exact sB Tryz.underlying33 hsv.sl rfl)) <| (ai) ?_ ?_ <;> clear h ac <;> intro ac wo h hc1
 ·
  have hq1 := hc1; try simp at hq1
  refine gz h <| (W) ?_; clear h ac wo; intro ac wo h
  replace h := h.nilRow (α := U Ln) 88
  have hd : s = [] := (hsv.nil hc1).1
  exact (rt h) (by rw [hd]; exact h.retR 0 rfl trivial)
 ·
  have hq1 := hc1; try simp at hq1
  refine gz h <| (W) ?_; clear h ac wo; intro ac wo h
  refine nw h (cj (α := U Ln) (xs := []) (vs := []) [] lW rfl rfl rfl (by decide)) rfl ?_; clear h ac wo; intro sv2 ac wo nnsv2 h
  refine gz h <| (W) ?_; clear h ac wo; intro ac wo h
  refine on1 h 0 rfl (vM (xs := []) (ys := s) lW hsv rfl rfl og) rfl ?_; clear h ac wo; intro sv3 ac wo apsv3 h
  refine gz h <| (W) ?_; clear h ac wo; intro ac wo h
  exact (rt h) (h.retR 0 rfl trivial)
theorem n8 (l : List (U Ln)) : (gO l).length ≤ l.length := List.length_filter_le _ _
theorem se (l : List (U Ln)) (lv : Value) (hf : FnL 174 me (gO l)) (hl : l.length < 20) (zl : All (iI 30) ((gO l).map (qU me))) (w0 : World) (hlv : View w0 lv l) : Calls Tryz.prog 71 #[lv] w0 (RetR w0 232 (nOf me (gO l)) ((nOf me (gO l)).length ≤ 1000)) := by
 refine enter (N := 9) (args := [lv]) Tryz.func71 rfl rfl ?_; intro ac h
 have hll := n8 l
 refine gz h <| (W) ?_; clear h ac; intro ac wo h
 refine f4 (xs := l) h (ch Tryz.call172 rfl) (fun w_ hB_ hS_ => clone_ct l lv (by omega) w_ (hlv.below hB_)) rfl ?_; clear h ac wo; intro sv3 ac wo _ h
 refine gz h <| (W) ?_; clear h ac wo; intro ac wo h
 refine on1 h 0 rfl (iz (vs := [sv3, (.func (.func 173) #[] #[])]) (A := fun v => [.row (α := U Ln) 88 v (gO l)]) (ch Tryz.call171 rfl) (fun w_ B_ hB_ hS_ => del_ct l sv3 (by omega) w0 w_ B_ hB_ hS_)) rfl ?_; clear h ac wo; intro s4 ac wo _ h
 refine gz h <| (W) ?_; clear h ac wo; intro ac wo h
 have p1 := RetR.pr (jH (gO l) s4 174 me hf (by omega) zl wo (row_view h.sep 0 rfl))
 refine f4 (xs := nOf me (gO l)) h (ch cc169 rfl) (fun w_ hB_ hS_ => jH (gO l) s4 174 me hf (by omega) zl w_ (row_view hS_ 0 rfl)) rfl ?_; clear h ac wo; intro s1 ac wo _ h
 refine gz h <| (W) ?_; clear h ac wo; intro ac wo h
 exact (rt h) (h.retR 0 rfl p1)
theorem eqi232 : EqIn Tryz.prog 6 232 vUD := eqS (c := cUD) (fun _ => rfl) Tryz.underlying232 Tryz.stoodInHeld232 fun d x y w hd => by
 refine Eq.trans (eqF (by decide) (di Tryz.isAgg86 zz86 (v := vV x.iv) rfl w) (di Tryz.isAgg86 zz86 (v := vV y.iv) rfl w) (eqi86 d _ _ w og) (eqF (by decide) (di Tryz.isAgg53 zz53 (v := vD x.f) rfl w) (di Tryz.isAgg53 zz53 (v := vD y.f) rfl w) (eqi53 d _ _ w og) eqF0)) ?_
 congr 1
 rw [decide_eq_decide]
 cases x; cases y; simp
theorem eqp232 : EqP Tryz.prog 232 vUD := EqIn.p (k := 6) rfl (c := fun x => (cUD x).toArray) (fun _ => rfl) Tryz.eqGuardType232 eqi232
instance yI7_12 : Ep Tryz.prog 232 (U Qd) inferInstance vUD := ⟨eqp232⟩
theorem neq_ct (l : List (U Qd)) (lv mv : Value) (hl : l.length ≤ 1000) (w0 : World) (hlv : View w0 lv l) (hmv : View w0 mv l) : Calls Tryz.prog 168 #[lv, mv] w0 (dI w0 (.bool true) True) := by
 refine enter (N := 26) (args := [lv, mv]) Tryz.func168 rfl rfl ?_; intro ac h
 have hlen := hlv.len
 refine gz h <| (ai) ?_ ?_ <;> clear h ac <;> intro ac wo h hc1
 · exfalso; simp at hc1
 refine gz h <| (W) ?_; clear h ac wo; intro ac wo h
 refine wp_loop_ghost (fun n_ a_ w_ => ∃ (i : Nat), (l.length - i < n_) ∧ (i ≤ l.length) ∧ St w0 26 [(0, lv), (1, mv), (12, iN l.length), (13, iN i)] [] a_ w_) (l.length + 1) ⟨0, by omega, by omega, h.rs⟩ ?_
 clear h ac wo; rintro n1 ac wo ⟨i, hm1, hi, h⟩
 obtain ⟨m1, rfl⟩ : ∃ m, n1 = m + 1 := ⟨n1 - 1, by omega⟩
 refine gz h <| (ai) ?_ ?_ <;> clear h ac wo <;> intro ac wo h hc2
 ·
  have hd1 : i < l.length := by have := of_decide_eq_true hc2; omega
  refine gz h <| (W) ?_; clear h ac wo; intro ac wo h
  refine gz h <| (dr0 (hob := oE)) <| (ai) ?_ ?_ <;> clear h ac wo <;> intro ac wo h hc3
  · exfalso; simp at hc3
  · refine gz h <| (W) ?_; clear h ac wo; intro ac wo h
    exact az ⟨m1, by omega, i + 1, by omega, by omega, h.re []⟩
 ·
  refine gz h <| (W) ?_; clear h ac wo; intro ac wo h
  exact (rt h) (h.retP rfl trivial)
theorem qo (l : List (U Qd)) (lv mv : Value) (hl : l.length ≤ 1000) (w0 : World) (hlv : View w0 lv l) (hmv : View w0 mv l) : Calls Tryz.prog 67 #[lv, mv] w0 (dI w0 (.bool true) True) := by
 refine enter (N := 8) (args := [lv, mv]) Tryz.func67 rfl rfl ?_; intro ac h
 refine gz h <| (xc (ct := by exact fun w_ hB_ hS_ => neq_ct l lv mv hl w_ (hlv.below hB_) (hmv.below hB_))) <| (W) ?_; clear h ac; intro ac wo h
 exact (rt h) (h.retP rfl trivial)
theorem vw (l : List (U Ln)) (lv : Value) (zf : ∀ i, SzN 40 (gt l i).f) (hl : l.length < 20) (zl : All (iI 30) ((gO l).map (qU me))) (w0 : World) (hlv : View w0 lv l) : Calls Tryz.prog 72 #[lv] w0 (RetR w0 232 (nOf me (gO l)) ((nOf me (gO l)).length ≤ 1000)) := by
 refine enter (N := 53) (args := [lv]) Tryz.func72 rfl rfl ?_; intro ac h
 have hlen := hlv.len
 have hll := n8 l
 refine gz h <| (W) ?_; clear h ac; intro ac wo h
 replace h := h.nilRow (α := U Qd) 232
 refine wp_loop_ghost (fun n_ a_ w_ => ∃ (i : Nat) (sv : Value), (l.length - i < n_) ∧ (i ≤ l.length) ∧ St w0 53 [(0, lv), (3, sv), (4, iN i)] [.row (α := U Qd) 232 sv ((gO (l.take i)).map (qU me))] a_ w_) (l.length + 1) ⟨0, _, by omega, by omega, h.re [0]⟩ ?_
 clear h ac wo; rintro n1 ac wo ⟨i, sv, hm1, hi, h⟩
 obtain ⟨m1, rfl⟩ : ∃ m, n1 = m + 1 := ⟨n1 - 1, by omega⟩
 refine gz h <| (ai) ?_ ?_ <;> clear h ac wo <;> intro ac wo h hc1
 ·
  have hd1 : i < l.length := by have := of_decide_eq_true hc1; omega
  have n1' := hlv.nn hd1
  refine gz h <| (xa) fun b5 => (xk (insV_ct (gt l i).iv)) <| (ai) ?_ ?_ <;> clear h ac wo <;> intro ac wo h hc2
  ·
   have hins : ¬(qC (gt l i) = true) := by
    have e9 : decide ((gt l i).iv.lo = (gt l i).iv.hi) = false := by simpa using hc2
    show ¬(decide ((gt l i).iv.lo = (gt l i).iv.hi) = true)
    rw [e9]; decide
   obtain ⟨f, hfe⟩ : ∃ f, (gt l i).f = f := ⟨_, rfl⟩
   have z := zf i
   rw [hfe] at z h
   have c1 := be f.x1 f.x1 38 og (cO z.2.1 og) (cO z.2.1 og)
   have c2 := be f.y1 f.y1 38 og (cO z.2.2.2 og) (cO z.2.2.2 og)
   have c3 := cd (an f.x1 f.x1) (an f.y1 f.y1) 35 og (ao (c1 w0)) (ao (c2 w0))
   have c4 := gG (sp2 f) 35 og (ao (c3 w0))
   refine gz h <| (W) ?_; clear h ac wo; intro ac wo h
   replace h := h.emps 1
   refine fo mixed [dv _, dw (vQ f.x1) [0], dv _, dw (vQ f.x1) [0], dv (vQ (an f.x1 f.x1)), dv _, dw (vQ f.y1) [0], dv _, dw (vQ f.y1) [0], dv (vQ (an f.y1 f.y1)), dv (vQ (sp2 f)), ⟨.nd (.one 11 fun x => ∃ b, x = ptr b 0), [2]⟩, dw undef [2]]
    [⟨_, []⟩, ⟨_, []⟩, ⟨.emp, [(11, .one 11 fun x => .blk (bK x) (cQ oQ) 27), (12, .one 11 fun x => .blk (bK x) (cQ (sp2 f)) 27)]⟩] h rfl (by kernel_rfl)
    ⟨oA obA, oA obA, oA obA, oA obA, oA fun _ => g8 (gD Tryz.call21 rfl c1), oA obA, oA obA, oA obA, oA obA, oA fun _ => g8 (gD Tryz.call21 rfl c2), oA fun _ => g8 (gD Tryz.call20 rfl c3), fun _ _ => l8 2 rfl (fun _ => rfl), fun ξ hφ => l7 (u := vQ (sp2 f)) 2 (hφ 11 rfl) rfl rfl rfl rfl rfl rfl rfl, trivial⟩ ?_
   clear h ac wo; intro ξ ac wo hφ h
   obtain ⟨b6, hb6⟩ : ∃ b, ξ 11 = ptr b 0 := hφ 11
   replace h : St w0 53 [(0, lv), (3, sv), (4, iN i), (6, ξ 11)] [.row (α := U Qd) 232 sv ((gO (l.take i)).map (qU me)), .blk (bK (ξ 11)) (cQ (sp2 f)) 27] ac wo := (h.pick [1, 2] (by decide)).sub ⟨rfl, rfl, rfl, rfl, trivial⟩
   rw [hb6] at h
   clear hb6 hφ ξ
   refine gz h <| (W) ?_; clear h ac wo; intro ac wo h
   replace h := h.emps 1
   obtain ⟨x, hx⟩ : ∃ x : U Qd, (⟨(gt l i).iv, me f⟩ : U Qd) = x := ⟨_, rfl⟩
   obtain ⟨o, ho⟩ : ∃ o, (gO (l.take i)).map (qU me) = o := ⟨_, rfl⟩
   have hol : o.length ≤ i := by
    have := n8 (l.take i)
    rw [List.length_take] at this
    rw [← ho, List.length_map]; omega
   rw [ho] at h
   refine fo mixed [dv _, dv _, dv _, dv _, dv _, dv (vV (gt l i).iv), dw (vQ (sp2 f)) [1], dv (vD (me f)), dv (vUD x), ⟨.nd (.one 9 fun v => NN v 1), [2]⟩, ⟨.nd (.con True), [0, 2]⟩, ⟨.nd (.two 11 10 fun a b => a = b), []⟩]
    [⟨.row (α := U Qd) 232 sv o, [(10, .one 10 fun v => .row (α := U Qd) 232 v (o ++ [x]))]⟩, ⟨_, []⟩, ⟨.emp, [(9, .one 9 fun v => .row (α := U Qd) 232 v [x])]⟩] h rfl (by kernel_rfl)
    ⟨oA obA, oA obA, oA obA, oA obA, oA obA, oA obA, oA obA, oA fun _ => g8 (gD Tryz.call113 rfl c4), (by rw [← hx]; exact oA fun _ => bk (bA xG rfl rfl rfl)), fun _ _ => nu 2 x m7 rfl rfl, fun _ _ => sG (j := 9) 0 2 m7 rfl rfl (by omega) rfl (fun v => by simp only [dx, bD] <;> rfl), fun _ _ => qj (j := 10) (by decide) rfl, trivial⟩ ?_
   clear h ac wo; intro ξ ac wo hφ h
   replace h : St w0 53 [(0, lv), (3, ξ 11), (4, iN i)] [.row (α := U Qd) 232 (ξ 10) (o ++ [x])] ac wo := (h.pick [0] (by decide)).sub ⟨rfl, rfl, rfl, trivial⟩
   rw [show ξ 11 = ξ 10 from hφ 11, ← ho, ← hx, show (gO (l.take i)).map (qU me) ++ [⟨(gt l i).iv, me f⟩] = (gO (l.take (i + 1))).map (qU me) by rw [kt hd1, if_neg hins, List.map_append, ← hfe]; rfl] at h
   generalize ξ 10 = s2 at h; clear hφ ξ
   refine gz h <| (W) ?_; clear h ac wo; intro ac wo h
   exact az ⟨m1, by omega, i + 1, s2, by omega, by omega, h.re [0]⟩
  ·
   have hins : qC (gt l i) = true := by
    show decide ((gt l i).iv.lo = (gt l i).iv.hi) = true
    simpa using hc2
   refine gz h <| (W) ?_; clear h ac wo; intro ac wo h
   refine az ⟨m1, by omega, i + 1, sv, by omega, by omega, ?_⟩
   rw [kt hd1, if_pos hins, List.append_nil]
   exact h.re [1]
 ·
  have hd1 := of_decide_eq_false hc1
  obtain rfl : i = l.length := by omega
  rw [List.take_length] at h
  have p1 := RetT.pr (jI ((gO l).map (qU me)) sv (by rw [List.length_map]; omega) zl wo (row_view h.sep 0 rfl))
  rw [List.length_map] at p1
  refine gz h <| (W) ?_; clear h ac wo; intro ac wo h
  refine pi (xs := nOf me (gO l)) h (ch cc170 rfl) (fun w_ hB_ hS_ => jI ((gO l).map (qU me)) sv (by rw [List.length_map]; omega) zl w_ (row_view hS_ 0 rfl)) rfl ?_; clear h ac wo; intro s2 ac wo _ h
  refine gz h <| (W) ?_; clear h ac wo; intro ac wo h
  exact (rt h) (h.retR 0 rfl (by unfold nOf; omega))
end Go.Sx
namespace Go.Sx
open Go Go.RowKit Go.Proofs
set_option maxRecDepth 100000
set_option maxHeartbeats 40000000
attribute [local irreducible] Code.wp wpList Rd Step ObS Ent
attribute [local irreducible] ap aN ak au aA bO aw aV
attribute [local irreducible] a8 aY an aE aZ am br fb kY cG ay
section
variable [K : Key] [KeyZ] [KeyB]
omit K [KeyZ] [KeyB] in
theorem mv_f {l : List (U Ln)} (hD : ∀ u ∈ l, DT u.f) (u : U Ln) (hu : u ∈ l) : SzN 40 u.f := jv (((hD u hu).bl (by decide)).sz (by decide)) og
omit K [KeyZ] [KeyB] in
theorem mv_g {l : List (U Ln)} (hD : ∀ u ∈ l, DT u.f) (i : Nat) : SzN 40 (gt l i).f := by
 by_cases h : i < l.length
 · exact mv_f hD _ (wZ h)
 · have e : gt l i = default := by unfold gt; rw [List.getD_eq_getElem?_getD, List.getElem?_eq_none (by omega)]; rfl
   rw [e]
   exact ⟨⟨jf _, jf _⟩, ⟨jf _, jf _⟩, ⟨jf _, jf _⟩, ⟨jf _, jf _⟩⟩
omit [KeyZ] [KeyB] in
theorem mv_d {l m : List (U Ln)} {q : Ln → Qd} (hN : NFl l) (hD : ∀ u ∈ l, DT u.f) (hm : ∀ u ∈ m, u ∈ l) (hq : ∀ f, SzN 40 f → SzD 30 (q f)) : All (iI 30) (m.map (qU q)) := fun x hx => by
 obtain ⟨u, hu, rfl⟩ := List.mem_map.1 hx
 have hw := hN.wv u (hm u hu)
 exact ⟨⟨mL hw.1.1, mL hw.1.2⟩, hq u.f (mv_f hD u (hm u hu))⟩
end
theorem sH (c : Crq) (s : List Stq) (sv : Value) (p q : Nat) (hp : p < 256) (hq : q < 256) (hc : c.time < 256 ∧ c.x < 256 ∧ c.y < 256) (hs : ∀ i, B4 (gt s i)) (w0 : World) (hsv : View w0 sv s) : Calls Tryz.prog 10 #[vCr c sv, vCt p q] w0 (dI w0 (.bool true) True) := by
 refine enter (N := 36) (args := [vCr c sv, vCt p q]) Tryz.func10 rfl rfl ?_; intro ac h
 haveI : On := ⟨trivial⟩
 letI : Key := keyC p q hp hq
 haveI : KeyZ := kcZ p q hp hq
 haveI : KeyB := kcB p q hp hq
 haveI : KeyG p q := kcG p q hp hq
 refine gz h <| (xb) fun b2 => (xb) fun b3 => (xk tQ) <| (xg (hs := by exact fun hg => fu enA (fun w_ hB_ hS_ => short_ct c s sv w_ (hsv.below hB_)))) <| (ai) ?_ ?_ <;> clear h ac <;> intro ac wo h hc1
 ·
  refine gz h <| (xk tQ) <| (W) ?_; clear h ac wo; intro ac wo h
  exact (rt h) (h.retP rfl trivial)
 have hl : s.length ≤ 6 := by
  have h9 : decide (((s.length : Nat) : Int) ≤ 6) = true := by simpa using hc1
  have := of_decide_eq_true h9; omega
 obtain ⟨hN, hD, hn⟩ := mov_ok c s p q
 obtain ⟨l, hle⟩ : ∃ l, movR c s p q = l := ⟨_, rfl⟩
 rw [hle] at hN hD hn
 refine gz h <| (W) ?_; clear h ac wo; intro ac wo h
 refine f4 (xs := l) h (ch Tryz.call50 rfl) (fun w_ hB_ hS_ => by rw [← hle]; exact wL c s sv p q hp hq hc hs hl w_ (hsv.below hB_)) rfl ?_; clear h ac wo; intro lv ac wo _ h
 have fx : FnL 102 lxs l := ⟨Tryz.call102, fun u hu w => (wT u.f 30 og (jv (mv_f hD u hu) og) w).mono fun e W' ⟨he, _, hb⟩ => ⟨he, trivial, hb⟩⟩
 have fy : FnL 103 lys l := ⟨Tryz.call103, fun u hu w => (wS u.f 30 og (jv (mv_f hD u hu) og) w).mono fun e W' ⟨he, _, hb⟩ => ⟨he, trivial, hb⟩⟩
 have hml : ∀ u ∈ gO l, u ∈ l := fun u hu => (List.mem_filter.1 hu).1
 have fs : FnL 174 me (gO l) := ⟨Tryz.call174, fun u hu w => (sp_ct u.f (mv_f hD u (hml u hu)) w).mono fun e W' ⟨he, _, hb⟩ => ⟨he, trivial, hb⟩⟩
 have zx : All (iI 30) (l.map (qU lxs)) := mv_d hN hD (fun u hu => hu) fun f hf => ao (wT f 30 og (jv hf og) w0)
 have zy : All (iI 30) (l.map (qU lys)) := mv_d hN hD (fun u hu => hu) fun f hf => ao (wS f 30 og (jv hf og) w0)
 have zs : All (iI 30) ((gO l).map (qU me)) := mv_d hN hD hml fun f hf => ij (ao (sp_ct f hf w0)) og
 have hg := mv_g hD
 refine gz h <| (W) ?_; clear h ac wo; intro ac wo h
 have px := RetR.pr (X_ct l lv fx (by omega) zx wo (row_view h.sep 0 rfl))
 refine f4 (xs := nOf lxs l) h (ch Tryz.call68 rfl) (fun w_ hB_ hS_ => X_ct l lv fx (by omega) zx w_ (row_view hS_ 0 rfl)) rfl ?_; clear h ac wo; intro xv ac wo _ h
 refine gz h <| (W) ?_; clear h ac wo; intro ac wo h
 refine f4 (xs := nOf lxs l) h (ch Tryz.call69 rfl) (fun w_ hB_ hS_ => t6 l lv false hg (by omega) zx w_ (row_view hS_ 1 rfl)) rfl ?_; clear h ac wo; intro x2 ac wo _ h
 refine gz h <| (xc (ct := by exact fun w_ hB_ hS_ => qo (nOf lxs l) xv x2 px w_ (row_view hS_ 1 rfl) (row_view hS_ 0 rfl))) <| (W) ?_; clear h ac wo; intro ac wo h
 refine gK (c := true) h rfl rfl rfl rfl ?_
 have py := RetR.pr (Y_ct l lv fy (by omega) zy wo (row_view h.sep 2 rfl))
 refine f4 (xs := nOf lys l) h (ch Tryz.call70 rfl) (fun w_ hB_ hS_ => Y_ct l lv fy (by omega) zy w_ (row_view hS_ 2 rfl)) rfl ?_; clear h ac wo; intro yv ac wo _ h
 refine gz h <| (W) ?_; clear h ac wo; intro ac wo h
 refine gK (c := true) h rfl rfl rfl rfl ?_
 refine f4 (xs := nOf lys l) h (ch Tryz.call69 rfl) (fun w_ hB_ hS_ => t6 l lv true hg (by omega) zy w_ (row_view hS_ 3 rfl)) rfl ?_; clear h ac wo; intro y2 ac wo _ h
 refine gz h <| (xg (hs := by exact fun hg => fu enA (fun w_ hB_ hS_ => qo (nOf lys l) yv y2 py w_ (row_view hS_ 1 rfl) (row_view hS_ 0 rfl)))) <| (W) ?_; clear h ac wo; intro ac wo h
 refine gK (c := true) h rfl rfl rfl rfl ?_
 have ps := RetR.pr (se l lv fs (by omega) zs wo (row_view h.sep 4 rfl))
 refine f4 (xs := nOf me (gO l)) h (ch Tryz.call71 rfl) (fun w_ hB_ hS_ => se l lv fs (by omega) zs w_ (row_view hS_ 4 rfl)) rfl ?_; clear h ac wo; intro sv1 ac wo _ h
 refine gz h <| (W) ?_; clear h ac wo; intro ac wo h
 refine gK (c := true) h rfl rfl rfl rfl ?_
 refine f4 (xs := nOf me (gO l)) h (ch Tryz.call72 rfl) (fun w_ hB_ hS_ => vw l lv hg (by omega) zs w_ (row_view hS_ 5 rfl)) rfl ?_; clear h ac wo; intro sv2 ac wo _ h
 refine gz h <| (xg (hs := by exact fun hg => fu enA (fun w_ hB_ hS_ => qo (nOf me (gO l)) sv1 sv2 ps w_ (row_view hS_ 1 rfl) (row_view hS_ 0 rfl)))) <| (W) ?_; clear h ac wo; intro ac wo h
 exact (rt h) (h.retP rfl trivial)
end Go.Sx
