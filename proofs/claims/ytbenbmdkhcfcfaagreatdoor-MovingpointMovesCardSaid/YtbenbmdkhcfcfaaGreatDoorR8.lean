/- A part of the proof of movingpointMoves. -/
import Derived.Test.YtbenbmdkhcfcfaaGreatDoorR7
import Derived.Test.YtbenbmdkhcfcfaaGreatDoorR6
import Derived.Test.YtbenbmdkhcfcfaaGreatDoorR5
import Derived.Test.YtbenbmdkhcfcfaaGreatDoorQ9
set_option linter.unusedVariables false
set_option linter.unusedSimpArgs false
open Go.Proofs.Tryz renaming call180 → cc180, runUnderlying71 → uu71, sizeOf27 → zz27, isAgg27 → aa27
namespace Go.Sx
open Go Go.RowKit Go.Proofs
set_option maxRecDepth 100000
set_option maxHeartbeats 40000000
attribute [local irreducible] Code.wp wpList Rd Step ObS Ent
attribute [local irreducible] ao aN ah aw ay bP
theorem ko : SlT Tryz.prog 103 86 20 216 [.bool false, .string ⟨#[]⟩, .bool false, .string ⟨#[]⟩, .bool false, .string ⟨#[]⟩, .bool false, .string ⟨#[]⟩, .bool false, .bool false, .string ⟨#[]⟩, .bool false, .string ⟨#[]⟩, .bool false, .string ⟨#[]⟩, .bool false, .string ⟨#[]⟩, .bool false, .bool false, .bool false] := ⟨Tryz.underlying103, Tryz.t86, _, Tryz.type86, rfl, rfl, rfl, rfl, rfl, by decide, by decide⟩
theorem ss : SlT Tryz.prog 317 321 12 128 [.bool false, .string ⟨#[]⟩, .bool false, .string ⟨#[]⟩, .bool false, .string ⟨#[]⟩, .bool false, .string ⟨#[]⟩, .bool false, .bool false, .int .i64 0, .int .i64 0] := ⟨Tryz.underlying317, Tryz.t321, _, Tryz.type321, rfl, rfl, rfl, rfl, rfl, by decide, by decide⟩
theorem slt318 : SlT Tryz.prog 318 103 1 24 [.slice none 0 0] := ⟨Tryz.underlying318, Tryz.t103, _, Tryz.type103, rfl, rfl, rfl, rfl, rfl, by decide, by decide⟩
theorem sw_step {kp : Bool → Bool → Bool} {S : List Ev} {i : Nat} (out : List Iv) (in_ : Bool) (fr : Bd) (n0 n1 : Int) (h : i < S.length) : swS kp (S.drop i) out in_ fr n0 n1 =
  bif (decide (((i + 1 : Nat) : Int) < ((S.length : Nat) : Int)) && (bE (gt S i).at_ (gt S (i + 1)).at_ == 0)) then swS kp (S.drop (i + 1)) out in_ fr (n0 + (gt S i).b0) (n1 + (gt S i).b1)
  else bif (kp (decide (n0 + (gt S i).b0 > 0)) (decide (n1 + (gt S i).b1 > 0)) && !in_) then swS kp (S.drop (i + 1)) out (kp (decide (n0 + (gt S i).b0 > 0)) (decide (n1 + (gt S i).b1 > 0))) (gt S i).at_ (n0 + (gt S i).b0) (n1 + (gt S i).b1)
  else bif (!(kp (decide (n0 + (gt S i).b0 > 0)) (decide (n1 + (gt S i).b1 > 0))) && in_) then swS kp (S.drop (i + 1)) (out ++ [bK fr (gt S i).at_]) (kp (decide (n0 + (gt S i).b0 > 0)) (decide (n1 + (gt S i).b1 > 0))) fr (n0 + (gt S i).b0) (n1 + (gt S i).b1)
  else swS kp (S.drop (i + 1)) out (kp (decide (n0 + (gt S i).b0 > 0)) (decide (n1 + (gt S i).b1 > 0))) fr (n0 + (gt S i).b0) (n1 + (gt S i).b1) := by
 have e : nxe (gt S i) (S.drop (i + 1)) = (decide (((i + 1 : Nat) : Int) < ((S.length : Nat) : Int)) && (bE (gt S i).at_ (gt S (i + 1)).at_ == 0)) := by
  by_cases h2 : i + 1 < S.length
  · rw [List.drop_eq_getElem_cons h2, ← gD h2, decide_eq_true (by omega : ((i + 1 : Nat) : Int) < ((S.length : Nat) : Int))]; rfl
  · rw [List.drop_of_length_le (by omega), decide_eq_false (by omega : ¬ ((i + 1 : Nat) : Int) < ((S.length : Nat) : Int))]; rfl
 rw [← e, List.drop_eq_getElem_cons h, ← gD h]; rfl
def z_ev : Ev := ⟨⟨⟨oQ, oQ, false⟩, false⟩, 0, 0⟩
instance yR8_1 (x : Bd) : Bu Tryz.prog 321 [0] [vW x] (vE (⟨x, 0, 0⟩ : Ev)) := Bu.of rh rfl rfl
def dU [K : Key] (kp : Bool → Bool → Bool) (a b : List Iv) : List Iv := swS kp (aQ (evA a ++ evB b)) [] false z_ev.at_ 0 0
theorem ip [K : Key] (kp : Bool → Bool → Bool) (kid : FuncId) (hkc : ∀ args w, (callFunc kid args).run Tryz.prog w = .ok (.enter kid args) w) (hkp : ∀ (p q : Bool) (w : World), Calls Tryz.prog kid #[.bool p, .bool q] w (dh w (.bool (kp p q)) True)) (a : List Iv) (av : Value) (b : List Iv) (bv : Value) (hla : a.length ≤ 200) (hlb : b.length ≤ 200) (hwa : ∀ i ∈ a, Wv i) (hwb : ∀ i ∈ b, Wv i) (za : All (SzV 30) a) (zb : All (SzV 30) b) (w0 : World) (hav : View w0 av a) (hbv : View w0 bv b) : Calls Tryz.prog 180 #[av, bv, (.func (.func kid) #[] #[])] w0 (RetR w0 86 (dU kp a b) (All (SzV 30) (dU kp a b) ∧ (dU kp a b).length ≤ 2 * a.length + 2 * b.length)) := by
 refine enter (N := 127) (args := [av, bv, (.func (.func kid) #[] #[])]) Tryz.func180 rfl rfl ?_; intro ac h
 haveI : On := ⟨trivial⟩
 have hlena := hav.len
 have hlenb := hbv.len
 have sa := hav.sl
 have sb := hbv.sl
 refine gz h <| (W) ?_; clear h ac; intro ac wo h
 refine bsl h slt318 rfl rfl (SL.is hav.sl) (SL.is hbv.sl) rfl ?_; clear h ac wo; intro b1 ac wo h
 refine rd0 h (fZ Tryz.runUnderlying318 rfl (n := 2) ⟨_, _, rfl⟩) rfl ?_; clear h ac wo; intro ac wo h
 refine gz h <| (W) ?_; clear h ac wo; intro ac wo h
 have hNN : NN (.slice (some ⟨b1, 0, none⟩) 2 2) 2 := ⟨_, _, _, rfl⟩
 refine pO 2 ?_
 refine gz h <| (ai) ?_ ?_ <;> clear h ac wo <;> intro ac wo h hc1
 ·
  clear hc1
  refine gz h <| (W) ?_; clear h ac wo; intro ac wo h
  replace h := h.nilRow (α := Ev) 321
  refine wp_loop_ghost (fun n_ a_ w_ => ∃ (l : List Ev) (x : Nat) (lv : Value), (a.length - x < n_) ∧ (x ≤ a.length) ∧ (All (SzE 30) l) ∧ (l.length = 2 * x) ∧ (∀ e ∈ l, EvB e) ∧ (l = evA (a.take x)) ∧ St w0 127 [(2, (.func (.func kid) #[] #[])), (7, lv), (8, (.int .i64 0)), (23, (.slice (some ⟨b1, 0, none⟩) 2 2)), (24, (.int .i64 2)), (25, (.int .i64 0)), (30, av), (31, iN a.length), (32, iN x)] [.row (α := Ev) 321 lv l, .blk b1 [av, bv] 103] a_ w_) (a.length + 1) ⟨[], 0, (.slice none 0 0), og, og, All.nil, rfl, evb_nil, rfl, h.rs⟩ ?_
  clear h ac wo; rintro n1 ac wo ⟨l1, x, lv1, hm1, hx32, zl1, hll1, hlb1, hle1, h⟩
  obtain ⟨m1, rfl⟩ : ∃ m, n1 = m + 1 := ⟨n1 - 1, by omega⟩
  refine gz h <| (ai) ?_ ?_ <;> clear h ac wo <;> intro ac wo h hc1
  ·
   have hd1 := of_decide_eq_true hc1
   have zx := All.gt za (SzV_d _) (i := x)
   have s2 : SzE 30 ⟨aJ (gt a x), 1, 0⟩ := am (fg (gt a x) zx w0)
   have s3 : SzE 30 ⟨aE (gt a x), -1, 0⟩ := am (fD (gt a x) zx w0)
   refine gz h <| (xa) fun b2 => (W) ?_; clear h ac wo; intro ac wo h
   replace h := h.emps 2
   refine ef mixed [dw (vV (gt a x)) [0], dv (vW (aJ (gt a x))), dv (vE ⟨aJ (gt a x), 0, 0⟩), dw (vV (gt a x)) [0], dv (vW (aE (gt a x))), dv (vE ⟨aE (gt a x), 0, 0⟩), ⟨.nd (.one 6 fun v => ∃ b, v = ptr b 0), [3]⟩, ⟨.nd (.one 7 fun v => ∃ b, v = ptr b 0), [4]⟩, dw _ [3], dw _ [4]] [⟨_, []⟩, ⟨_, []⟩, ⟨_, []⟩, ⟨.emp, [(6, .one 6 fun v => .blk (bo v) (cE z_ev) 321), (8, .one 6 fun v => .blk (bo v) (cE ⟨aJ (gt a x), 0, 0⟩) 321)]⟩, ⟨.emp, [(7, .one 7 fun v => .blk (bo v) (cE z_ev) 321), (9, .one 7 fun v => .blk (bo v) (cE ⟨aE (gt a x), 0, 0⟩) 321)]⟩] h rfl (by kernel_rfl) ⟨oA obA, oA fun _ => fJ (fb (cP Tryz.call136 rfl) (kk (fg (gt a x) zx))), oA fun _ => a6 (bA rh rfl rfl rfl), oA obA, oA fun _ => fJ (fb (cP Tryz.call137 rfl) (kk (fD (gt a x) zx))), oA fun _ => a6 (bA rh rfl rfl rfl), fun _ _ => iY 3 rfl (fun _ => rfl), fun _ _ => iY 4 rfl (fun _ => rfl), fun ξ hφ => iX (u := vE ⟨aJ (gt a x), 0, 0⟩) 3 (hφ 6 rfl) rfl rfl rfl rfl rfl rfl rfl, fun ξ hφ => iX (u := vE ⟨aE (gt a x), 0, 0⟩) 4 (hφ 7 rfl) rfl rfl rfl rfl rfl rfl rfl, trivial⟩ ?_
   clear h ac wo; intro ξ ac wo hφ h
   obtain ⟨b3, hb6⟩ : ∃ b, ξ 6 = ptr b 0 := hφ 6
   obtain ⟨b4, hb7⟩ : ∃ b, ξ 7 = ptr b 0 := hφ 7
   replace h : St w0 127 [(2, (.func (.func kid) #[] #[])), (7, lv1), (8, (.int .i64 0)), (23, (.slice (some ⟨b1, 0, none⟩) 2 2)), (24, (.int .i64 2)), (25, (.int .i64 0)), (30, av), (31, iN a.length), (32, iN x), (12, ξ 6), (13, ξ 7)] [.row (α := Ev) 321 lv1 l1, .blk b1 [av, bv] 103, .blk (bo (ξ 6)) (cE ⟨aJ (gt a x), 0, 0⟩) 321, .blk (bo (ξ 7)) (cE ⟨aE (gt a x), 0, 0⟩) 321] ac wo := (h.pick [1, 2, 3, 4] (by decide)).sub ⟨rfl, rfl, rfl, rfl, rfl, rfl, rfl, rfl, rfl, rfl, rfl, trivial⟩
   rw [hb6, hb7] at h
   clear hb6 hb7 hφ ξ
   refine gz h <| (xs 2 (cE ⟨aJ (gt a x), 1, 0⟩)) <| (xs 3 (cE ⟨aE (gt a x), -1, 0⟩)) <| (W) ?_; clear h ac wo; intro ac wo h
   refine nw h (di (α := Ev) (xs := [.tmp 49, .tmp 50]) (vs := [vE ⟨aJ (gt a x), 1, 0⟩, vE ⟨aE (gt a x), -1, 0⟩]) [⟨aJ (gt a x), 1, 0⟩, ⟨aE (gt a x), -1, 0⟩] ss rfl rfl rfl (by decide)) rfl ?_; clear h ac wo; intro sv4 ac wo _ h
   refine on2 h 1 0 rfl rfl (fW (xs := l1) (ys := [⟨aJ (gt a x), 1, 0⟩, ⟨aE (gt a x), -1, 0⟩]) ss (fun w hs => (row_view hs 0 rfl)) rfl rfl og) rfl ?_; clear h ac wo; intro sv5 ac wo _ h
   refine gz h <| (W) ?_; clear h ac wo; intro ac wo h
   exact aK ⟨m1, og, _, x + 1, sv5, og, og, All.app zl1 (All.cons s2 (All.cons s3 All.nil)), by rw [List.length_append]; show _ + 2 = _; omega, wE hlb1 ⟨⟨by decide, by decide⟩, ⟨by decide, by decide⟩⟩ ⟨⟨by decide, by decide⟩, ⟨by decide, by decide⟩⟩, evA_next hle1 og, h.re [0, 2]⟩
  ·
   have hd1 := of_decide_eq_false hc1
   obtain rfl : x = a.length := by omega
   rw [List.take_length] at hle1
   refine gz h <| (ai) ?_ ?_ <;> clear h ac wo <;> intro ac wo h hc2
   ·
    clear hc2
    refine gz h <| (W) ?_; clear h ac wo; intro ac wo h
    refine wp_loop_ghost (fun n_ a_ w_ => ∃ (l : List Ev) (x : Nat) (lv : Value), (b.length - x < n_) ∧ (x ≤ b.length) ∧ (All (SzE 30) l) ∧ (l.length = 2 * a.length + 2 * x) ∧ (∀ e ∈ l, EvB e) ∧ (l = evA a ++ evB (b.take x)) ∧ St w0 127 [(2, (.func (.func kid) #[] #[])), (7, lv), (8, (.int .i64 1)), (23, (.slice (some ⟨b1, 0, none⟩) 2 2)), (24, (.int .i64 2)), (25, (.int .i64 1)), (30, bv), (31, iN b.length), (32, iN x)] [.row (α := Ev) 321 lv l, .blk b1 [av, bv] 103] a_ w_) (b.length + 1) ⟨l1, 0, lv1, og, og, zl1, by omega, hlb1, by rw [hle1]; simp [evB], h.rs⟩ ?_
    clear h ac wo; rintro n2 ac wo ⟨l2, x, lv2, hm1, hx32, zl2, hll2, hlb2, hle2, h⟩
    obtain ⟨m1, rfl⟩ : ∃ m, n2 = m + 1 := ⟨n2 - 1, by omega⟩
    refine gz h <| (ai) ?_ ?_ <;> clear h ac wo <;> intro ac wo h hc1
    ·
     have hd1 := of_decide_eq_true hc1
     have zx := All.gt zb (SzV_d _) (i := x)
     have s2 : SzE 30 ⟨aJ (gt b x), 0, 1⟩ := am (fg (gt b x) zx w0)
     have s3 : SzE 30 ⟨aE (gt b x), 0, -1⟩ := am (fD (gt b x) zx w0)
     refine gz h <| (xa) fun b2 => (W) ?_; clear h ac wo; intro ac wo h
     replace h := h.emps 2
     refine ef mixed [dw (vV (gt b x)) [0], dv (vW (aJ (gt b x))), dv (vE ⟨aJ (gt b x), 0, 0⟩), dw (vV (gt b x)) [0], dv (vW (aE (gt b x))), dv (vE ⟨aE (gt b x), 0, 0⟩), ⟨.nd (.one 6 fun v => ∃ b, v = ptr b 0), [3]⟩, ⟨.nd (.one 7 fun v => ∃ b, v = ptr b 0), [4]⟩, dw _ [3], dw _ [4]] [⟨_, []⟩, ⟨_, []⟩, ⟨_, []⟩, ⟨.emp, [(6, .one 6 fun v => .blk (bo v) (cE z_ev) 321), (8, .one 6 fun v => .blk (bo v) (cE ⟨aJ (gt b x), 0, 0⟩) 321)]⟩, ⟨.emp, [(7, .one 7 fun v => .blk (bo v) (cE z_ev) 321), (9, .one 7 fun v => .blk (bo v) (cE ⟨aE (gt b x), 0, 0⟩) 321)]⟩] h rfl (by kernel_rfl) ⟨oA obA, oA fun _ => fJ (fb (cP Tryz.call136 rfl) (kk (fg (gt b x) zx))), oA fun _ => a6 (bA rh rfl rfl rfl), oA obA, oA fun _ => fJ (fb (cP Tryz.call137 rfl) (kk (fD (gt b x) zx))), oA fun _ => a6 (bA rh rfl rfl rfl), fun _ _ => iY 3 rfl (fun _ => rfl), fun _ _ => iY 4 rfl (fun _ => rfl), fun ξ hφ => iX (u := vE ⟨aJ (gt b x), 0, 0⟩) 3 (hφ 6 rfl) rfl rfl rfl rfl rfl rfl rfl, fun ξ hφ => iX (u := vE ⟨aE (gt b x), 0, 0⟩) 4 (hφ 7 rfl) rfl rfl rfl rfl rfl rfl rfl, trivial⟩ ?_
     clear h ac wo; intro ξ ac wo hφ h
     obtain ⟨b3, hb6⟩ : ∃ b, ξ 6 = ptr b 0 := hφ 6
     obtain ⟨b4, hb7⟩ : ∃ b, ξ 7 = ptr b 0 := hφ 7
     replace h : St w0 127 [(2, (.func (.func kid) #[] #[])), (7, lv2), (8, (.int .i64 1)), (23, (.slice (some ⟨b1, 0, none⟩) 2 2)), (24, (.int .i64 2)), (25, (.int .i64 1)), (30, bv), (31, iN b.length), (32, iN x), (12, ξ 6), (13, ξ 7)] [.row (α := Ev) 321 lv2 l2, .blk b1 [av, bv] 103, .blk (bo (ξ 6)) (cE ⟨aJ (gt b x), 0, 0⟩) 321, .blk (bo (ξ 7)) (cE ⟨aE (gt b x), 0, 0⟩) 321] ac wo := (h.pick [1, 2, 3, 4] (by decide)).sub ⟨rfl, rfl, rfl, rfl, rfl, rfl, rfl, rfl, rfl, rfl, rfl, trivial⟩
     rw [hb6, hb7] at h
     clear hb6 hb7 hφ ξ
     refine gz h <| (xs 2 (cE ⟨aJ (gt b x), 0, 1⟩)) <| (xs 3 (cE ⟨aE (gt b x), 0, -1⟩)) <| (W) ?_; clear h ac wo; intro ac wo h
     refine nw h (di (α := Ev) (xs := [.tmp 49, .tmp 50]) (vs := [vE ⟨aJ (gt b x), 0, 1⟩, vE ⟨aE (gt b x), 0, -1⟩]) [⟨aJ (gt b x), 0, 1⟩, ⟨aE (gt b x), 0, -1⟩] ss rfl rfl rfl (by decide)) rfl ?_; clear h ac wo; intro sv4 ac wo _ h
     refine on2 h 1 0 rfl rfl (fW (xs := l2) (ys := [⟨aJ (gt b x), 0, 1⟩, ⟨aE (gt b x), 0, -1⟩]) ss (fun w hs => (row_view hs 0 rfl)) rfl rfl og) rfl ?_; clear h ac wo; intro sv5 ac wo _ h
     refine gz h <| (W) ?_; clear h ac wo; intro ac wo h
     exact aK ⟨m1, og, _, x + 1, sv5, og, og, All.app zl2 (All.cons s2 (All.cons s3 All.nil)), by rw [List.length_append]; show _ + 2 = _; omega, wE hlb2 ⟨⟨by decide, by decide⟩, ⟨by decide, by decide⟩⟩ ⟨⟨by decide, by decide⟩, ⟨by decide, by decide⟩⟩, evB_next hle2 og, h.re [0, 2]⟩
    ·
     have hd1 := of_decide_eq_false hc1
     obtain rfl : x = b.length := by omega
     rw [List.take_length] at hle2
     refine gz h <| (ai) ?_ ?_ <;> clear h ac wo <;> intro ac wo h hc3
     · cases hc3
     ·
      refine gz h <| (W) ?_; clear h ac wo; intro ac wo h
      have hT2 : ∀ e ∈ l2, Tm e.at_.at_ := by rw [hle2]; exact wG hwa hwb
      refine on1 h 0 rfl (tN (vs := [lv2, (.func (.func 246) #[] #[])]) (A := fun v => [.row (α := Ev) 321 lv2 (aQ l2)]) (cP Tryz.call245 rfl) (fun w_ B_ hB_ hS_ => i7 l2 lv2 og hT2 zl2 w0 w_ B_ hB_ hS_)) rfl ?_; clear h ac wo; intro vc ac wo s11 h
      have zS := s11.2.1
      have hS : (aQ l2).length = 2 * a.length + 2 * b.length := by rw [(iT l2).length_eq, hll2]
      have bS := evb_gt hlb2
      clear s11
      obtain ⟨R, hR⟩ : ∃ R, dU kp a b = R := ⟨_, rfl⟩
      have hR2 := hR
      unfold dU at hR2
      rw [← hle2] at hR2
      rw [hR]
      generalize aQ l2 = S at h zS hS bS hR2
      refine gz h <| (xa) fun b8 => (xa) fun b9 => (W) ?_; clear h ac wo; intro ac wo h
      replace h := h.nilRow (α := Iv) 86
      refine wp_loop_ghost (fun n_ a_ w_ => ∃ (out : List Iv) (i_ : Bool) (i : Nat) (fr : Bd) (n : I2) (outv : Value), (S.length - i < n_) ∧ (i ≤ S.length) ∧ (swS kp (S.drop i) out i_ fr n.n0 n.n1 = R) ∧ (All (SzV 30) out) ∧ (SzW 30 fr) ∧ (out.length ≤ i) ∧ ((-(i : Int) ≤ n.n0 ∧ n.n0 ≤ (i : Int)) ∧ (-(i : Int) ≤ n.n1 ∧ n.n1 ≤ (i : Int))) ∧ St w0 127 [(2, (.func (.func kid) #[] #[])), (7, lv2), (14, outv), (15, ptr b8 0), (16, ptr b9 0), (17, .bool i_), (57, lv2), (58, iN S.length), (59, iN i)] [.row (α := Iv) 86 outv out, .blk b9 (cW fr) 206, .blk b8 (cJ n) 319, .row (α := Ev) 321 lv2 S] a_ w_) (S.length + 1) ⟨[], false, 0, z_ev.at_, ⟨0, 0⟩, (.slice none 0 0), og, og, hR2, All.nil, SzW_d _, og, by decide, h.re [0, 1, 2, 3]⟩ ?_
      clear h ac wo; rintro n3 ac wo ⟨out, i_, i, fr, n, outv, hm3, hi, hR3, zo, zf, lo, hn, h⟩
      obtain ⟨m3, rfl⟩ : ∃ m, n3 = m + 1 := ⟨n3 - 1, by omega⟩
      obtain ⟨⟨he1, he2⟩, ⟨he3, he4⟩⟩ := bS i
      refine gz h <| (ai) ?_ ?_ <;> clear h ac wo <;> intro ac wo h hc4
      ·
       have hd4 := of_decide_eq_true hc4
       rw [sw_step _ _ _ _ _ (by omega)] at hR3
       have zi := All.gt zS (rk _) (i := i)
       have zj := All.gt zS (rk _) (i := i + 1)
       refine gz h <| (xa) fun b10 => (dr1 (H := [⟨_, []⟩, ⟨_, []⟩, ⟨_, []⟩, ⟨.blk b8 (cJ n) 319, [(13, .con (.blk b8 (cJ ⟨n.n0 + (gt S i).b0, n.n1⟩) 319)), (15, .con (.blk b8 (cJ ⟨n.n0 + (gt S i).b0, n.n1 + (gt S i).b1⟩) 319))]⟩, ⟨_, []⟩]) (hob := oE)) <| (dr0 (hob := (oG (by exact fun hg => gU (gt S i).at_ (gt S (i + 1)).at_ zi zj)) <| oE)) <| (ai) ?_ ?_ <;> clear h ac wo <;> intro ac wo h hc5
       ·
        rw [hc5, cond_true] at hR3
        refine gz h <| (W) ?_; clear h ac wo; intro ac wo h
        exact aK ⟨m3, og, out, i_, i + 1, fr, ⟨n.n0 + (gt S i).b0, n.n1 + (gt S i).b1⟩, outv, og, og, hR3, zo, zf, og, ⟨⟨by simp only; omega, by simp only; omega⟩, ⟨by simp only; omega, by simp only; omega⟩⟩, h.re [1, 2, 3, 4]⟩
       ·
        rw [hc5, cond_false] at hR3
        haveI : Cf Tryz.prog kid := ⟨hkc⟩
        refine gz h <| (xk (hkp (decide (n.n0 + (gt S i).b0 > 0)) (decide (n.n1 + (gt S i).b1 > 0)))) <| (ai) ?_ ?_ <;> clear h ac wo <;> intro ac wo h hc6
        ·
         rw [hc6, cond_true] at hR3
         refine gz h <| (W) ?_; clear h ac wo; intro ac wo h
         exact aK ⟨m3, og, out, (kp (decide (n.n0 + (gt S i).b0 > 0)) (decide (n.n1 + (gt S i).b1 > 0))), i + 1, (gt S i).at_, ⟨n.n0 + (gt S i).b0, n.n1 + (gt S i).b1⟩, outv, og, og, hR3, zo, zi, og, ⟨⟨by simp only; omega, by simp only; omega⟩, ⟨by simp only; omega, by simp only; omega⟩⟩, h.re [1, 2, 3, 4]⟩
        ·
         rw [hc6, cond_false] at hR3
         refine gz h <| (ai) ?_ ?_ <;> clear h ac wo <;> intro ac wo h hc7
         ·
          rw [hc7, cond_true] at hR3
          have s16 := am (jh fr (gt S i).at_ zf zi w0)
          refine gz h <| (xk (jh fr (gt S i).at_ zf zi)) <| (W) ?_; clear h ac wo; intro ac wo h
          refine nw h (di (α := Iv) (xs := [.tmp 121]) (vs := [vV (bK fr (gt S i).at_)]) [bK fr (gt S i).at_] ko rfl rfl rfl (by decide)) rfl ?_; clear h ac wo; intro sv17 ac wo _ h
          refine on2 h 2 0 rfl rfl (fW (xs := out) (ys := [bK fr (gt S i).at_]) ko (fun w hs => (row_view hs 0 rfl)) rfl rfl og) rfl ?_; clear h ac wo; intro sv18 ac wo _ h
          refine gz h <| (W) ?_; clear h ac wo; intro ac wo h
          exact aK ⟨m3, og, _, (kp (decide (n.n0 + (gt S i).b0 > 0)) (decide (n.n1 + (gt S i).b1 > 0))), i + 1, fr, ⟨n.n0 + (gt S i).b0, n.n1 + (gt S i).b1⟩, _, og, og, hR3, (All.app zo (All.cons s16 All.nil)), zf, og, ⟨⟨by simp only; omega, by simp only; omega⟩, ⟨by simp only; omega, by simp only; omega⟩⟩, h.re [0, 3, 4, 5]⟩
         ·
          rw [hc7, cond_false] at hR3
          refine gz h <| (W) ?_; clear h ac wo; intro ac wo h
          exact aK ⟨m3, og, out, (kp (decide (n.n0 + (gt S i).b0 > 0)) (decide (n.n1 + (gt S i).b1 > 0))), i + 1, fr, ⟨n.n0 + (gt S i).b0, n.n1 + (gt S i).b1⟩, outv, og, og, hR3, zo, zf, og, ⟨⟨by simp only; omega, by simp only; omega⟩, ⟨by simp only; omega, by simp only; omega⟩⟩, h.re [1, 2, 3, 4]⟩
      ·
       have hd4 := of_decide_eq_false hc4
       rw [List.drop_of_length_le (by omega)] at hR3
       have e : out = R := hR3
       refine gz h <| (W) ?_; clear h ac wo; intro ac wo h
       exact (rt h) (by rw [← e]; exact h.retR 0 rfl ⟨zo, by omega⟩)
   · cases hc2
 · cases hc1
attribute [irreducible] dU
def eE [K : Key] (a : List Iv) (b : List Iv) : (List Iv) := dU cM a b
theorem jg [K : Key] (a : List Iv) (av : Value) (b : List Iv) (bv : Value) (hla : a.length ≤ 200) (hlb : b.length ≤ 200) (hwa : ∀ i ∈ a, Wv i) (hwb : ∀ i ∈ b, Wv i) (za : All (SzV 30) a) (zb : All (SzV 30) b) (w0 : World) (hav : View w0 av a) (hbv : View w0 bv b) : Calls Tryz.prog 180 #[av, bv, (.func (.func 243) #[] #[])] w0 (RetR w0 86 (eE a b) (All (SzV 30) (eE a b) ∧ (eE a b).length ≤ 2 * a.length + 2 * b.length)) :=
  ip cM 243 Tryz.call243 jX a av b bv hla hlb hwa hwb za zb w0 hav hbv
attribute [irreducible] eE
def cK [K : Key] (a : List Iv) (b : List Iv) : (List Iv) :=
 (eE a b)
theorem kD [K : Key] (a : List Iv) (av : Value) (b : List Iv) (bv : Value) (hla : a.length ≤ 200) (hlb : b.length ≤ 200) (hwa : ∀ i ∈ a, Wv i) (hwb : ∀ i ∈ b, Wv i) (za : All (SzV 30) a) (zb : All (SzV 30) b) (w0 : World) (hav : View w0 av a) (hbv : View w0 bv b) : Calls Tryz.prog 177 #[av, bv] w0 (RetR w0 86 (cK a b) (All (SzV 30) (cK a b) ∧ (cK a b).length ≤ 2 * a.length + 2 * b.length)) := by
 refine enter (N := 8) (args := [av, bv]) Tryz.func177 rfl rfl ?_; intro ac h
 haveI : On := ⟨trivial⟩
 have hlena := hav.len
 have hlenb := hbv.len
 refine gz h <| (W) ?_; clear h ac; intro ac wo h
 have s1 := RetR.pr ((fun w_ hB_ hS_ => jg a av b bv og og og og za zb w_ (hav.below hB_) (hbv.below hB_)) _ h.bel h.sep)
 have p2 := s1.2
 refine fN (xs := (eE a b)) h (cP cc180 rfl) (fun w_ hB_ hS_ => jg a av b bv og og og og za zb w_ (hav.below hB_) (hbv.below hB_)) rfl ?_; clear h ac wo; intro sv3 ac wo _ h
 refine gz h <| (W) ?_; clear h ac wo; intro ac wo h
 exact (rt h) (by unfold cK; exact h.retR 0 rfl ⟨s1.1, og⟩)
attribute [irreducible] cK
end Go.Sx
namespace Go.Sx
open Go Go.RowKit Go.Proofs
set_option maxRecDepth 100000
set_option maxHeartbeats 40000000
attribute [local irreducible] Code.wp wpList Rd Step ObS Ent
attribute [local irreducible] ao aN ah aw ay bP
def eC [K : Key] (a : List Iv) (b : List Iv) : (List Iv) := dU dP a b
theorem je [K : Key] (a : List Iv) (av : Value) (b : List Iv) (bv : Value) (hla : a.length ≤ 200) (hlb : b.length ≤ 200) (hwa : ∀ i ∈ a, Wv i) (hwb : ∀ i ∈ b, Wv i) (za : All (SzV 30) a) (zb : All (SzV 30) b) (w0 : World) (hav : View w0 av a) (hbv : View w0 bv b) : Calls Tryz.prog 180 #[av, bv, (.func (.func 244) #[] #[])] w0 (RetR w0 86 (eC a b) (All (SzV 30) (eC a b) ∧ (eC a b).length ≤ 2 * a.length + 2 * b.length)) :=
  ip dP 244 Tryz.call244 lO a av b bv hla hlb hwa hwb za zb w0 hav hbv
attribute [irreducible] eC
def eF [K : Key] (a : List Iv) (b : List Iv) : (List Iv) :=
 (eC a b)
theorem jV [K : Key] (a : List Iv) (av : Value) (b : List Iv) (bv : Value) (hla : a.length ≤ 200) (hlb : b.length ≤ 200) (hwa : ∀ i ∈ a, Wv i) (hwb : ∀ i ∈ b, Wv i) (za : All (SzV 30) a) (zb : All (SzV 30) b) (w0 : World) (hav : View w0 av a) (hbv : View w0 bv b) : Calls Tryz.prog 178 #[av, bv] w0 (RetR w0 86 (eF a b) (All (SzV 30) (eF a b) ∧ (eF a b).length ≤ 2 * a.length + 2 * b.length)) := by
 refine enter (N := 8) (args := [av, bv]) Tryz.func178 rfl rfl ?_; intro ac h
 have hlena := hav.len
 have hlenb := hbv.len
 refine gz h <| (W) ?_; clear h ac; intro ac wo h
 have s1 := RetR.pr ((fun w_ hB_ hS_ => je a av b bv og og og og za zb w_ (hav.below hB_) (hbv.below hB_)) _ h.bel h.sep)
 have p2 := s1.2
 refine fN (xs := (eC a b)) h (cP cc180 rfl) (fun w_ hB_ hS_ => je a av b bv og og og og za zb w_ (hav.below hB_) (hbv.below hB_)) rfl ?_; clear h ac wo; intro sv3 ac wo _ h
 refine gz h <| (W) ?_; clear h ac wo; intro ac wo h
 exact (rt h) (by unfold eF; exact h.retR 0 rfl ⟨s1.1, og⟩)
attribute [irreducible] eF
def eA [K : Key] (l : List Iv) : (List Iv) :=
 (eF l ([]))
theorem jE [K : Key] (l : List Iv) (lv : Value) (hl : l.length ≤ 200) (hw : ∀ i ∈ l, Wv i) (zl : All (SzV 30) l) (w0 : World) (hlv : View w0 lv l) : Calls Tryz.prog 77 #[lv] w0 (RetR w0 86 (eA l) (All (SzV 30) (eA l) ∧ (eA l).length ≤ 2 * l.length)) := by
 refine enter (N := 5) (args := [lv]) Tryz.func77 rfl rfl ?_; intro ac h
 have hlenl := hlv.len
 refine gz h <| (W) ?_; clear h ac; intro ac wo h
 have s1 := RetR.pr ((fun w_ hB_ hS_ => jV l lv ([]) (.slice none 0 0) og (by simp) og (fun _ h => by cases h) zl All.nil w_ (hlv.below hB_) View.nilv) _ h.bel h.sep)
 have p2 := s1.2
 refine fN (xs := (eF l ([]))) h (cP Tryz.call178 rfl) (fun w_ hB_ hS_ => jV l lv ([]) (.slice none 0 0) og (by simp) og (fun _ h => by cases h) zl All.nil w_ (hlv.below hB_) View.nilv) rfl ?_; clear h ac wo; intro sv3 ac wo _ h
 refine gz h <| (W) ?_; clear h ac wo; intro ac wo h
 exact (rt h) (by unfold eA; exact h.retR 0 rfl ⟨s1.1, og⟩)
attribute [irreducible] eA
end Go.Sx
namespace Go.Sx
open Go Go.RowKit Go.Proofs
set_option maxRecDepth 100000
set_option maxHeartbeats 40000000
attribute [local irreducible] Code.wp wpList Rd Step ObS Ent
attribute [local irreducible] ao aN ah aw ay bP
def eD [K : Key] (a : List Iv) (b : List Iv) : (List Iv) := dU dQ a b
theorem jf [K : Key] (a : List Iv) (av : Value) (b : List Iv) (bv : Value) (hla : a.length ≤ 200) (hlb : b.length ≤ 200) (hwa : ∀ i ∈ a, Wv i) (hwb : ∀ i ∈ b, Wv i) (za : All (SzV 30) a) (zb : All (SzV 30) b) (w0 : World) (hav : View w0 av a) (hbv : View w0 bv b) : Calls Tryz.prog 180 #[av, bv, (.func (.func 181) #[] #[])] w0 (RetR w0 86 (eD a b) (All (SzV 30) (eD a b) ∧ (eD a b).length ≤ 2 * a.length + 2 * b.length)) :=
  ip dQ 181 Tryz.call181 lP a av b bv hla hlb hwa hwb za zb w0 hav hbv
attribute [irreducible] eD
def df [K : Key] (a : List Iv) (b : List Iv) : (List Iv) :=
 (eD a b)
theorem jW [K : Key] (a : List Iv) (av : Value) (b : List Iv) (bv : Value) (hla : a.length ≤ 200) (hlb : b.length ≤ 200) (hwa : ∀ i ∈ a, Wv i) (hwb : ∀ i ∈ b, Wv i) (za : All (SzV 30) a) (zb : All (SzV 30) b) (w0 : World) (hav : View w0 av a) (hbv : View w0 bv b) : Calls Tryz.prog 79 #[av, bv] w0 (RetR w0 86 (df a b) (All (SzV 30) (df a b) ∧ (df a b).length ≤ 2 * a.length + 2 * b.length)) := by
 refine enter (N := 8) (args := [av, bv]) Tryz.func79 rfl rfl ?_; intro ac h
 have hlena := hav.len
 have hlenb := hbv.len
 refine gz h <| (W) ?_; clear h ac; intro ac wo h
 have s1 := RetR.pr ((fun w_ hB_ hS_ => jf a av b bv og og og og za zb w_ (hav.below hB_) (hbv.below hB_)) _ h.bel h.sep)
 have p2 := s1.2
 refine fN (xs := (eD a b)) h (cP cc180 rfl) (fun w_ hB_ hS_ => jf a av b bv og og og og za zb w_ (hav.below hB_) (hbv.below hB_)) rfl ?_; clear h ac wo; intro sv3 ac wo _ h
 refine gz h <| (W) ?_; clear h ac wo; intro ac wo h
 exact (rt h) (by unfold df; exact h.retR 0 rfl ⟨s1.1, og⟩)
attribute [irreducible] df
end Go.Sx
namespace Go.Sx
set_option maxRecDepth 100000
theorem lI [K : Key] (kp : Bool → Bool → Bool) (a b : List Iv) : ∃ fr, dU kp a b = swS kp (aQ (evA a ++ evB b)) [] false fr 0 0 := by
  unfold dU
  exact ⟨_, rfl⟩
theorem tI [K : Key] (a b : List Iv) : ∃ fr, eE a b = swS cM (aQ (evA a ++ evB b)) [] false fr 0 0 := by
  unfold eE
  exact lI cM a b
theorem tG [K : Key] (a b : List Iv) : ∃ fr, eC a b = swS dP (aQ (evA a ++ evB b)) [] false fr 0 0 := by
  unfold eC
  exact lI dP a b
theorem tH [K : Key] (a b : List Iv) : ∃ fr, eD a b = swS dQ (aQ (evA a ++ evB b)) [] false fr 0 0 := by
  unfold eD
  exact lI dQ a b
theorem keep_I : ∀ x y, cM x y = (x && y) := fun x y => by unfold cM; rfl
theorem keep_U : ∀ x y, dP x y = (x || y) := fun x y => by unfold dP; rfl
theorem keep_M : ∀ x y, dQ x y = (x && !y) := fun x y => by unfold dQ; rfl
section
variable {a b : List Iv}
theorem ly [K : Key] (ha : ∀ i ∈ a, Wv i) (hb : ∀ i ∈ b, Wv i) : Cn (cK a b) ∧ ∀ x, inP (cK a b) x ↔ inP a x ∧ inP b x := by
  classical
  obtain ⟨fr, e⟩ := tI a b
  obtain ⟨h1, h2⟩ := oH (l := evA a ++ evB b) (wG ha hb)
  obtain ⟨h3, h4⟩ := mL (keep := cM) (by rw [keep_I]; rfl) ha hb h1 h2 fr
  unfold cK
  rw [e]
  refine ⟨h3, fun x => (h4 x).trans ?_⟩
  rw [keep_I, Bool.and_eq_true, decide_eq_true_eq, decide_eq_true_eq]
theorem uB [K : Key] (ha : ∀ i ∈ a, Wv i) (hb : ∀ i ∈ b, Wv i) : Cn (eF a b) ∧ ∀ x, inP (eF a b) x ↔ inP a x ∨ inP b x := by
  classical
  obtain ⟨fr, e⟩ := tG a b
  obtain ⟨h1, h2⟩ := oH (l := evA a ++ evB b) (wG ha hb)
  obtain ⟨h3, h4⟩ := mL (keep := dP) (by rw [keep_U]; rfl) ha hb h1 h2 fr
  unfold eF
  rw [e]
  refine ⟨h3, fun x => (h4 x).trans ?_⟩
  rw [keep_U, Bool.or_eq_true, decide_eq_true_eq, decide_eq_true_eq]
theorem lj [K : Key] (ha : ∀ i ∈ a, Wv i) (hb : ∀ i ∈ b, Wv i) : Cn (df a b) ∧ ∀ x, inP (df a b) x ↔ inP a x ∧ ¬ inP b x := by
  classical
  obtain ⟨fr, e⟩ := tH a b
  obtain ⟨h1, h2⟩ := oH (l := evA a ++ evB b) (wG ha hb)
  obtain ⟨h3, h4⟩ := mL (keep := dQ) (by rw [keep_M]; rfl) ha hb h1 h2 fr
  unfold df
  rw [e]
  refine ⟨h3, fun x => (h4 x).trans ?_⟩
  rw [keep_M, Bool.and_eq_true, decide_eq_true_eq, Bool.not_eq_true', decide_eq_false_iff_not]
theorem tX [K : Key] (ha : ∀ i ∈ a, Wv i) : Cn (eA a) ∧ ∀ x, inP (eA a) x ↔ inP a x := by
  unfold eA
  obtain ⟨h1, h2⟩ := uB ha (b := []) (fun _ h => by cases h)
  exact ⟨h1, fun x => (h2 x).trans ⟨fun h => h.resolve_right (kG x), .inl⟩⟩
theorem wv_sz [K : Key] (h : ∀ i ∈ a, Wv i) : All (SzV 30) a := fun i hi => ⟨e6 (tm_sz (h i hi).1.1) (by omega), e6 (tm_sz (h i hi).1.2) (by omega)⟩
theorem Cn.sz [K : Key] (h : Cn a) : All (SzV 30) a := wv_sz h.wv
end
end Go.Sx
namespace Go.Sx
theorem sq2 : ∀ n d : Nat, n * n = 2 * (d * d) → d = 0
  | n, d, h => by
    rcases Nat.eq_zero_or_pos d with e | hd
    · exact e
    have hn : n % 2 = 0 := by
      rcases Nat.mod_two_eq_zero_or_one n with e | e
      · exact e
      · exfalso
        have : n * n % 2 = 1 := by rw [Nat.mul_mod, e]
        omega
    obtain ⟨m, rfl⟩ : ∃ m, n = 2 * m := ⟨n / 2, by omega⟩
    have h2 : d * d = 2 * (m * m) := by
      have : 2 * m * (2 * m) = 2 * (2 * (m * m)) := by rw [Nat.mul_mul_mul_comm, Nat.mul_assoc]
      omega
    have hm : m < d := by
      refine Nat.lt_of_not_le fun hle => ?_
      have := Nat.mul_le_mul hle hle
      have := Nat.mul_pos hd hd
      omega
    have := sq2 d m h2
    subst this
    have := Nat.mul_pos hd hd
    omega
  termination_by _ d => d
theorem vq (q : Rat) : q * q ≠ 2 := by
  intro h
  have hd : (q.den : Rat) ≠ 0 := fun e => q.den_nz (by exact_mod_cast e)
  have e : q = (q.num : Rat) / (q.den : Rat) := by
    have := Rat.num_divInt_den q
    rw [Rat.divInt_eq_div] at this
    exact this.symm
  have h2 : (q.num : Rat) * (q.num : Rat) = 2 * ((q.den : Rat) * (q.den : Rat)) := by
    rw [e] at h; grind
  have h3 : q.num * q.num = 2 * ((q.den : Int) * (q.den : Int)) := by exact_mod_cast h2
  have h4 : q.num.natAbs * q.num.natAbs = 2 * (q.den * q.den) := by
    have := congrArg Int.natAbs h3
    rw [Int.natAbs_mul, Int.natAbs_mul, Int.natAbs_mul] at this
    simpa using this
  exact q.den_nz (sq2 _ _ h4)
def qa (n : Nat) : GQ := (ch (au (n : Int)) (au 4)).1
theorem nB (n : Nat) : QOk (qa n) ∧ bH (qa n) = ((n : Int) : Rat) / 4 := by
  have := wl (n := au (n : Int)) (d := au 4) (jo _) (by rw [eZ]; decide)
  rw [eZ, eZ] at this
  exact this
theorem qa_bq {n : Nat} (h : n < 1024) : Bq 10 (qa n) := Bq.of (nB n).1 n 4 (by decide) (by decide) (by omega) (nB n).2
def two : GQ := ah 2
theorem kK : QOk two ∧ bH two = 2 := cu 2
def gX (p : Nat) : GR := ⟨qa p, two, false⟩
theorem gX_ok (p : Nat) : ROk (gX p) := ⟨(nB p).1, kK.1, Or.inr ⟨by rw [show (gX p).r = two from rfl, kK.2]; decide, fun q => by rw [show (gX p).r = two from rfl, kK.2]; exact vq q⟩⟩
theorem gX_make (p : Nat) : eN (qa p) (ah 1) (ah 2) = (gX p, 0) := by
  have h1 : decide (aw (ah 2) < 0) = false := by
    rw [iU (cu 2).1, (cu 2).2]; decide
  have h2 : (cr (ah 2)).2 = false := vi kK.1 (by show 0 ≤ bH two; rw [kK.2]; decide) fun q => by
    show q * q ≠ bH two; rw [kK.2]; exact vq q
  have h3 : decide (aw (ah 1) < 0) = false := by
    rw [iU (cu 1).1, (cu 1).2]; decide
  obtain ⟨a1, a2⟩ := fG (cu 1).1 (cu 1).1
  obtain ⟨b1, b2⟩ := fG a1 (cu 2).1
  have h4 : ak (ak (ah 1) (ah 1)) (ah 2) = two := dr b1 kK.1 (by rw [b2, a2, (cu 1).2, (cu 2).2, kK.2]; decide +kernel)
  unfold eN
  rw [h1, h2, h3, h4]
  rfl
def t7 (x y : GR) : GR := bif decide (ao y x > 0) then y else x
def nv (p q : Nat) : Iv := bif decide (p % 3 = 1) then ⟨ap (qa p), t7 (gX p) (ap (qa (p + q))), decide (q % 2 = 1), false⟩ else ⟨ap (qa p), ap (qa (p + q)), false, false⟩
theorem qa_lt (p : Nat) : ao (ap (qa p)) (gX p) = -1 := by
  have h := ml (uf (nB p).1) (gX_ok p)
  refine h.uniq ((Sg.neg (vd 1 (show (0 : Rat) ≤ 2 by decide))).congr fun k => ?_)
  rw [fr_rv]
  unfold rv fac gX
  dsimp only
  rw [kK.2, cond_false]
  grind
theorem qa_le (p q : Nat) : ao (ap (qa p)) (ap (qa (p + q))) ≤ 0 := by
  rw [fr_cmp (nB p).1 (nB _).1, (nB p).2, (nB _).2]
  unfold rsg
  split
  · decide
  · split
    · exfalso
      rename_i h
      have h1 : (0 : Rat) ≤ ((q : Nat) : Rat) := by exact_mod_cast Nat.zero_le q
      push_cast at h
      grind
    · decide
section
variable [K : Key]
class KeyG (p q : Nat) : Prop where
  a : Tm (ap (qa p))
  b : Tm (ap (qa (p + q)))
  x : Tm (gX p)
theorem ww {p q : Nat} [G : KeyG p q] : Wv (nv p q) := by
  have h1 := oF G.a G.x (qa_lt p)
  have h2 : tk (ap (qa p)) ≤ tk (ap (qa (p + q))) := by
    have := G.a.cmp G.b
    have h := qa_le p q
    rw [this] at h
    unfold sgn at h
    split at h
    · omega
    · split at h
      · omega
      · omega
  unfold nv
  cases decide (p % 3 = 1) with
  | false => exact ⟨⟨G.a, G.b⟩, h2, fun _ => ⟨rfl, rfl⟩⟩
  | true =>
    rw [cond_true]
    have hm : Tm (t7 (gX p) (ap (qa (p + q)))) ∧ tk (ap (qa p)) < tk (t7 (gX p) (ap (qa (p + q)))) := by
      unfold t7
      cases h : decide (ao (ap (qa (p + q))) (gX p) > 0) with
      | false => exact ⟨G.x, h1⟩
      | true =>
        have h3 := of_decide_eq_true h
        rw [G.b.cmp G.x] at h3
        unfold sgn at h3
        split at h3
        · omega
        · split at h3
          · exact ⟨G.b, by rw [cond_true]; omega⟩
          · omega
    exact ⟨⟨G.a, hm.1⟩, Nat.le_of_lt hm.2, fun e => by simp only at e; omega⟩
theorem gA {i : Iv} {q : Nat} : inI i q ↔ inU i q := by
  unfold inI inU
  have h1 := kE i
  rw [ki]
  omega
def qU (l : List (U Ln)) : List Iv := eA (l.map fun u => u.iv)
theorem sZ {l : List (U Ln)} (h : ∀ u ∈ l, Wv u.iv) : Cn (qU l) ∧ ∀ q, inP (qU l) q ↔ ∃ u ∈ l, inU u.iv q := by
  obtain ⟨h1, h2⟩ := tX (a := l.map fun u => u.iv) fun i hi => by obtain ⟨u, hu, rfl⟩ := List.mem_map.1 hi; exact h u hu
  refine ⟨h1, fun q => (h2 q).trans ⟨fun ⟨i, hi, hq⟩ => ?_, fun ⟨u, hu, hq⟩ => ⟨u.iv, List.mem_map_of_mem hu, gA.2 hq⟩⟩⟩
  obtain ⟨u, hu, rfl⟩ := List.mem_map.1 hi
  exact ⟨u, hu, gA.1 hq⟩
def rsI (l : List (U Ln)) (d : List Iv) : List (U Ln) := l.flatMap fun u => (cK [u.iv] d).map fun i => ⟨i, u.f⟩
theorem iG {i : Iv} (h : Wv i) : ∀ j ∈ [i], Wv j := fun j hj => by rw [List.mem_singleton.1 hj]; exact h
theorem i0 {i : Iv} {q : Nat} : inP [i] q ↔ inU i q := ⟨fun ⟨j, hj, h⟩ => by rw [List.mem_singleton.1 hj] at h; exact gA.1 h, fun h => ⟨i, List.mem_singleton.2 rfl, gA.2 h⟩⟩
theorem rB {l : List (U Ln)} {d : List Iv} (hl : ∀ u ∈ l, Wv u.iv) (hd : ∀ i ∈ d, Wv i) {x : U Ln} (hx : x ∈ rsI l d) : ∃ u ∈ l, x.f = u.f ∧ Wv x.iv ∧ ∀ q, inU x.iv q → inU u.iv q ∧ inP d q := by
  obtain ⟨u, hu, h⟩ := List.mem_flatMap.1 hx
  obtain ⟨i, hi, rfl⟩ := List.mem_map.1 h
  obtain ⟨c, p⟩ := ly (iG (hl u hu)) hd
  refine ⟨u, hu, rfl, c.wv i hi, fun q hq => ?_⟩
  have := (p q).1 ⟨i, hi, gA.2 hq⟩
  exact ⟨i0.1 this.1, this.2⟩
theorem cn_dj {p : List Iv} (h : Cn p) : p.Pairwise Dj := h.sep.imp fun {a b} h => by
  have h1 := kE a
  have h2 := ki b
  exact .inl (by omega)
theorem rsI_dj {l : List (U Ln)} {d : List Iv} (hl : ∀ u ∈ l, Wv u.iv) (hD : l.Pairwise fun a b => Dj a.iv b.iv) (hd : ∀ i ∈ d, Wv i) : (rsI l d).Pairwise fun a b => Dj a.iv b.iv := by
  unfold rsI
  rw [List.pairwise_flatMap]
  refine ⟨fun u hu => List.pairwise_map.2 (cn_dj (ly (iG (hl u hu)) hd).1), hD.imp_of_mem fun {a b} ha hb h x hx y hy => ?_⟩
  have hx' : x ∈ rsI [a] d := by unfold rsI; rw [List.flatMap_singleton]; exact hx
  have hy' : y ∈ rsI [b] d := by unfold rsI; rw [List.flatMap_singleton]; exact hy
  obtain ⟨u, hu, _, wx, px⟩ := rB (fun u hu => by rw [List.mem_singleton.1 hu]; exact hl a ha) hd hx'
  obtain ⟨v, hv, _, wy, py⟩ := rB (fun u hu => by rw [List.mem_singleton.1 hu]; exact hl b hb) hd hy'
  rw [List.mem_singleton.1 hu] at px
  rw [List.mem_singleton.1 hv] at py
  exact dj_plc wx wy fun q _ h' => no_dj h q ⟨(px q h'.1).1, (py q h'.2).1⟩
theorem uC {p : List Iv} {i g : Iv} (hp : Cn p) (h : ∀ q, inP p q ↔ inU i q ∧ ¬ inU g q) : p.length ≤ 2 := by
  match p, hp, h with
  | [], _, _ => exact Nat.zero_le _
  | [_], _, _ => exact Nat.le_succ _
  | [_, _], _, _ => exact Nat.le_refl _
  | a :: b :: c :: r, hp, h =>
    exfalso
    obtain ⟨hb, sa, wa⟩ := hp.tail
    obtain ⟨hc, sb, wb⟩ := hb.tail
    have wc := hc.wv c (List.mem_cons_self ..)
    have s1 := sa b (List.mem_cons_self ..)
    have s2 := sb c (List.mem_cons_self ..)
    have la := wa.le
    have lb := wb.le
    have lc := wc.le
    have a1 := kE a
    have b0 := ki b
    have b1 := kE b
    have c0 := ki c
    have ha : inP (a :: b :: c :: r) (eI a) := ⟨a, List.mem_cons_self .., gA.2 (mg wa)⟩
    have hbb : inP (a :: b :: c :: r) (eI b) := ⟨b, List.mem_cons_of_mem _ (List.mem_cons_self ..), gA.2 (mg wb)⟩
    have hcc : inP (a :: b :: c :: r) (eI c) := ⟨c, List.mem_cons_of_mem _ (List.mem_cons_of_mem _ (List.mem_cons_self ..)), gA.2 (mg wc)⟩
    have i1 := ((h _).1 ha).1
    have i3 := ((h _).1 hcc).1
    have n2 := ((h _).1 hbb).2
    have g1 : inU g (kB (aE a)) := by
      refine Classical.byContradiction fun hn => ?_
      have : inP (a :: b :: c :: r) (kB (aE a)) := (h _).2 ⟨by unfold inU at i1 i3 ⊢; omega, hn⟩
      rcases dC.1 this with h | h
      · have := (gA.1 h).2; omega
      · have := hp.behind h; omega
    have g2 : inU g (kB (aE b)) := by
      refine Classical.byContradiction fun hn => ?_
      have : inP (a :: b :: c :: r) (kB (aE b)) := (h _).2 ⟨by unfold inU at i1 i3 ⊢; omega, hn⟩
      rcases dC.1 this with h | h
      · have := (gA.1 h).2; omega
      · rcases dC.1 h with h | h
        · have := (gA.1 h).2; omega
        · have := hb.behind h; omega
    exact n2 (by unfold inU at g1 g2 ⊢; omega)
omit K in
theorem sY {α β : Type} {f : α → List β} {k : Nat} : ∀ {l : List α}, (∀ x ∈ l, (f x).length ≤ k) → (l.flatMap f).length ≤ k * l.length
  | [], _ => Nat.zero_le _
  | x :: l, h => by
    rw [List.flatMap_cons, List.length_append, List.length_cons, Nat.mul_succ]
    have h1 := h x (List.mem_cons_self ..)
    have h2 := sY fun y hy => h y (List.mem_cons_of_mem _ hy)
    omega
theorem vh {l : List (U Ln)} {g : Iv} (hl : ∀ u ∈ l, Wv u.iv) (hg : Wv g) : (rsI l (df (qU l) [g])).length ≤ 2 * l.length := by
  obtain ⟨c, p⟩ := sZ hl
  obtain ⟨c2, p2⟩ := lj c.wv (iG hg)
  refine sY fun u hu => ?_
  rw [List.length_map]
  obtain ⟨c3, p3⟩ := ly (iG (hl u hu)) c2.wv
  refine uC (i := u.iv) (g := g) c3 fun q => (p3 q).trans ⟨fun ⟨a, b⟩ => ⟨i0.1 a, fun hh => ((p2 q).1 b).2 (i0.2 hh)⟩, fun ⟨a, b⟩ => ⟨i0.2 a, (p2 q).2 ⟨(p q).2 ⟨u, hu, a⟩, fun hh => b (i0.1 hh)⟩⟩⟩
def fX (l : List (U Ln)) (d : List Iv) : List (U Ln) := (az (rsI l d)).1
def uw (c : Crq) (s : List Stq) (p q : Nat) : List (U Ln) := bif decide (p % 3 = 0) then eL c s else fX (eL c s) (df (qU (eL c s)) [nv p q])
class KeyB : Prop where
  b : ∀ t, Tm t → Bq 100 t.p
variable [KeyZ] [KeyB]
abbrev DT : Ln → Prop := DL 16 140
omit [KeyZ] in
theorem dkT : Dk DT := ⟨lines_ru KeyB.b (by decide) (by decide), fun f h => h.ok⟩
theorem rp (c : Crq) (s : List Stq) : az (trU c s) = (eL c s, 0) ∧ NFL DT (trU c s) (eL c s) ∧ (eL c s).length ≤ 7 := by
  obtain ⟨h1, h2, h3, _⟩ := sr c s
  obtain ⟨N, e, h⟩ := dkT.normal (fun x hx => ⟨(h1 x hx).1, Or.inl (h1 x hx).2⟩) (h2.imp fun h => .inl h)
  have : eL c s = N := by unfold eL; rw [e]
  rw [this]
  exact ⟨e, h, Nat.le_trans h.len h3⟩
omit [KeyZ] in
theorem oO {l : List (U Ln)} {d : List Iv} (hl : NFl l) (hD : ∀ u ∈ l, DT u.f) (hd : ∀ i ∈ d, Wv i) : (∀ x ∈ rsI l d, Wv x.iv ∧ DT x.f) ∧ (rsI l d).Pairwise (fun a b => Dj a.iv b.iv) ∧ az (rsI l d) = (fX l d, 0) ∧ NFL DT (rsI l d) (fX l d) := by
  have h1 : ∀ x ∈ rsI l d, Wv x.iv ∧ DT x.f := fun x hx => by
    obtain ⟨u, hu, e, w, _⟩ := rB hl.wv hd hx
    exact ⟨w, by rw [e]; exact hD u hu⟩
  have h2 := rsI_dj hl.wv hl.dj hd
  obtain ⟨N, e, h⟩ := dkT.normal h1 h2
  have : fX l d = N := by unfold fX; rw [e]
  rw [this]
  exact ⟨h1, h2, e, h⟩
theorem mov_ok (c : Crq) (s : List Stq) (p q : Nat) [KeyG p q] : NFl (uw c s p q) ∧ (∀ u ∈ uw c s p q, DT u.f) ∧ (uw c s p q).length ≤ 14 := by
  obtain ⟨_, h, hl⟩ := rp c s
  unfold uw
  cases decide (p % 3 = 0) with
  | true => exact ⟨h.nf, h.ok, by rw [cond_true]; omega⟩
  | false =>
    rw [cond_false]
    have hg : Wv (nv p q) := ww
    have hc := (lj (sZ h.nf.wv).1.wv (iG hg)).1
    obtain ⟨_, _, _, h4⟩ := oO h.nf h.ok hc.wv
    have := vh (g := nv p q) h.nf.wv hg
    exact ⟨h4.nf, h4.ok, by have := h4.len; omega⟩
end
end Go.Sx
namespace Go.Sx
open Go Go.RowKit Go.Proofs
set_option maxRecDepth 100000
set_option maxHeartbeats 40000000
attribute [local irreducible] Code.wp wpList Rd Step ObS Ent
attribute [local irreducible] ao aN ah aw ay bP
attribute [local irreducible] aU aR ak an aD aj
def qAt (q : Qd) (t : GR) : GR :=
 (eN (an (aU q t.p) (ak q.c2 t.r)) (bif t.neg then aD (aR q t.p) else aR q t.p) t.r).1
theorem qAt_ct (q : Qd) (t : GR) (k : Nat) (hk : k ≤ 10) (zq : SzD (k + 19) q) (zt : SzR (k + 19) t) (hr : Sm t.r) (z3 : SzQ 30 t.r) (w0 : World) : Calls Tryz.prog 248 #[vD q, vR t] w0 (dh w0 (vR (qAt q t)) (SzR k (qAt q t))) := by
 refine enter (N := 36) (args := [vD q, vR t]) Tryz.func248 rfl rfl ?_; intro ac h
 have c1 := gO q t.p (k + 9) og zq zt.1
 have s1 := am (c1 w0)
 have c2 := be q.c2 t.r (k + 9) og (bQ zq.2.2 og) (bQ zt.2 og)
 have s2 := am (c2 w0)
 have c3 := bt (aU q t.p) (ak q.c2 t.r) (k + 6) og s1 s2
 have s3 := am (c3 w0)
 have c4 := gu q t.p (k + 6) og (j8 zq og) (bQ zt.1 og)
 have s4 := am (c4 w0)
 refine gz h <| (xb) fun b1 => (xb) fun b2 => (xa) fun b3 => (W) ?_; clear h ac; intro ac wo h
 replace h := h.emps 1
 refine ef mixed [dw (vD q) [2], dv (ptr b2 0), dw (vQ t.p) [1], dv (vQ (aU q t.p)), dv (ptr b1 8), dw (vQ q.c2) [2], dv (ptr b2 4), dw (vQ t.r) [1], dv (vQ (ak q.c2 t.r)), dv (vQ (an (aU q t.p) (ak q.c2 t.r))), ⟨.nd (.one 10 fun x => ∃ b, x = ptr b 0), [3]⟩, dw undef [3]] [⟨_, []⟩, ⟨_, []⟩, ⟨_, []⟩, ⟨.emp, [(10, .one 10 fun x => .blk (bo x) (cQ oQ) 27), (11, .one 10 fun x => .blk (bo x) (cQ (an (aU q t.p) (ak q.c2 t.r))) 27)]⟩] h rfl (by kernel_rfl) ⟨fun _ _ => iB _ rfl rfl (jC Tryz.isAgg53 Tryz.sizeOf53 rfl rfl rfl (v := vD q) rfl), fun _ _ => a6 (fa uu71 rfl zz27 rfl rfl rfl (k' := 0)), fun _ _ => iB _ rfl rfl (jC aa27 zz27 rfl rfl rfl (v := vQ t.p) rfl), oA fun _ => fJ (eH Tryz.call101 rfl c1), fun _ _ => a6 (fa Tryz.runUnderlying53 rfl zz27 rfl rfl rfl (k' := 8)), fun _ _ => iB _ rfl rfl (jC aa27 zz27 rfl rfl rfl (v := vQ q.c2) rfl), fun _ _ => a6 (fa uu71 rfl zz27 rfl rfl rfl (k' := 4)), fun _ _ => iB _ rfl rfl (jC aa27 zz27 rfl rfl rfl (v := vQ t.r) rfl), oA fun _ => fJ (eH Tryz.call21 rfl c2), oA fun _ => fJ (eH Tryz.call20 rfl c3), fun _ _ => iY 3 rfl (fun _ => rfl), fun ξ hφ => iX (u := vQ (an (aU q t.p) (ak q.c2 t.r))) 3 (hφ 10 rfl) rfl rfl rfl rfl rfl rfl rfl, trivial⟩ ?_
 clear h ac wo; intro ξ ac wo hφ h
 obtain ⟨b5, hb5⟩ : ∃ b, ξ 10 = ptr b 0 := hφ 10
 replace h : St w0 36 [(2, ptr b1 0), (3, ptr b2 0), (4, ptr b3 0), (5, ξ 10)] [.blk b3 (cR ⟨oQ, oQ, false⟩) 71, .blk b2 (cR t) 71, .blk b1 (cD q) 53, .blk (bo (ξ 10)) (cQ (an (aU q t.p) (ak q.c2 t.r))) 27] ac wo := h.sub ⟨rfl, rfl, rfl, rfl, trivial⟩
 rw [hb5] at h
 clear hb5 hφ ξ
 obtain ⟨m, hm⟩ : ∃ m, (bif t.neg then aD (aR q t.p) else aR q t.p) = m := ⟨_, rfl⟩
 have zm : SzQ (k + 6) m := by
  rw [← hm]; cases t.neg
  · exact s4
  · exact am ((cY (aR q t.p) (k + 6) og s4) w0)
 have c6 := l7 (an (aU q t.p) (ak q.c2 t.r)) m t.r k og s3 zm (bQ zt.2 og) hr z3
 have e : qAt q t = (eN (an (aU q t.p) (ak q.c2 t.r)) m t.r).1 := by unfold qAt; rw [hm]
 rw [e]
 obtain ⟨tp, tr, tn⟩ := t
 cases tn
 ·
  subst hm
  refine gz h <| (xk c4) <| (xa) fun b6 => (ai) ?_ ?_ <;> clear h ac wo <;> intro ac wo h hc1
  · cases hc1
  refine gz h <| (xk c6) <| (xa) fun b7 => (W) ?_; clear h ac wo; intro ac wo h
  exact rtc 2 h (h.retP rfl (am (c6 w0)))
 ·
  subst hm
  have c5 := cY (aR q tp) (k + 6) og s4
  refine gz h <| (xk c4) <| (xa) fun b6 => (ai) ?_ ?_ <;> clear h ac wo <;> intro ac wo h hc1
  · refine gz h <| (xk c5) <| (xk c6) <| (xa) fun b7 => (W) ?_; clear h ac wo; intro ac wo h
    exact rtc 2 h (h.retP rfl (am (c6 w0)))
  · cases hc1
attribute [irreducible] qAt
def ptAt (f : Ln) (t : GR) : RPt := ⟨qAt (lxs f) t, qAt (lys f) t⟩
def SzRP (k : Nat) (x : RPt) : Prop := SzR k x.x ∧ SzR k x.y
theorem ptAt_ct (f : Ln) (t : GR) (k : Nat) (hk : k ≤ 10) (zf : SzN (k + 19) f) (zt : SzR (k + 19) t) (hr : Sm t.r) (z3 : SzQ 30 t.r) (w0 : World) : Calls Tryz.prog 183 #[vN f, vR t] w0 (dh w0 (vRP (ptAt f t)) (SzRP k (ptAt f t))) := by
 refine enter (N := 14) (args := [vN f, vR t]) Tryz.func183 rfl rfl ?_; intro ac h
 have c1 := lxs_ct f (k + 19) og zf
 have c2 := qAt_ct (lxs f) t k hk (am (c1 w0)) zt hr z3
 have c3 := lys_ct f (k + 19) og zf
 have c4 := qAt_ct (lys f) t k hk (am (c3 w0)) zt hr z3
 refine gz h <| (xb) fun b1 => (xb) fun b2 => (xa) fun b3 => (dr1 (H := [⟨.blk b3 (cRP ⟨⟨oQ, oQ, false⟩, ⟨oQ, oQ, false⟩⟩) 247, [(9, .con (.blk b3 (cRP (⟨qAt (lxs f) t, qAt (lys f) t⟩ : RPt)) 247))]⟩, ⟨_, []⟩, ⟨_, []⟩]) (hob := (oK c1) <| (oK c2) <| (oK c3) <| (oK c4) <| oE)) <| (W) ?_; clear h ac; intro ac wo h
 exact rtc 0 h (h.retP (u := vRP (ptAt f t)) rfl ⟨am (c2 w0), am (c4 w0)⟩)
attribute [irreducible] ptAt
def nX (l : List GR) (n : Nat) : GR := (List.range n).foldl (fun m i => bif decide (ao (gt l (i + 1)) m < 0) then gt l (i + 1) else m) (gt l 0)
theorem qA (l : List GR) (n : Nat) : nX l (n + 1) = (bif decide (ao (gt l (n + 1)) (nX l n) < 0) then gt l (n + 1) else nX l n) := by
 unfold nX; rw [List.range_succ, List.foldl_append]; rfl
theorem v7 {P : GR → Prop} {l : List GR} (h : ∀ i, P (gt l i)) : ∀ n, P (nX l n)
 | 0 => h 0
 | n + 1 => by
  rw [qA]
  cases decide (ao (gt l (n + 1)) (nX l n) < 0)
  · exact v7 h n
  · exact h _
theorem minR_ct (l : List GR) (lv : Value) (hl : l.length ≤ 1000) (h0 : 0 < l.length) (zl : ∀ i, SzR 30 (gt l i)) (w0 : World) (hlv : View w0 lv l) : Calls Tryz.prog 184 #[lv, .func (.func 127) #[] #[]] w0 (dh w0 (vR (nX l (l.length - 1))) (SzR 30 (nX l (l.length - 1)))) := by
 refine enter (N := 33) (args := [lv, .func (.func 127) #[] #[]]) Tryz.func184 rfl rfl ?_; intro ac h
 have hlen := hlv.len
 refine gz h <| (xa) fun b1 => (ai) ?_ ?_ <;> clear h ac <;> intro ac wo h hc1
 · have := of_decide_eq_true hc1; omega
 refine gz h <| (xa) fun b2 => (W) ?_; clear h ac wo; intro ac wo h
 refine wp_loop_ghost (fun n_ a_ w_ => ∃ (i : Nat), (l.length - i < n_) ∧ (i < l.length) ∧ St w0 33 [(0, lv), (1, .func (.func 127) #[] #[]), (4, ptr b1 0), (5, ptr b2 0), (6, iN (i + 1))] [.blk b2 (cR (nX l i)) 71, .blk b1 (cR ⟨oQ, oQ, false⟩) 71] a_ w_) (l.length + 1) ⟨0, by omega, by omega, h.rs⟩ ?_
 clear h ac wo; rintro n1 ac wo ⟨i, hm1, hi, h⟩
 obtain ⟨m1, rfl⟩ : ∃ m, n1 = m + 1 := ⟨n1 - 1, by omega⟩
 have zm : SzR 30 (nX l i) := v7 (P := SzR 30) zl i
 refine gz h <| (ai) ?_ ?_ <;> clear h ac wo <;> intro ac wo h hc1
 ·
  have hd1 : i + 1 < l.length := by have := of_decide_eq_true hc1; omega
  have c1 := dl (gt l (i + 1)) (nX l i) 10 og (zl _) zm
  have e := qA l i
  refine gz h <| (dr0 (hob := (oK c1) <| oE)) <| (ai) ?_ ?_ <;> clear h ac wo <;> intro ac wo h hc2
  · rw [hc2] at e
    refine gz h <| (W) ?_; clear h ac wo; intro ac wo h
    exact aK ⟨m1, by omega, i + 1, by omega, by omega, by rw [e]; exact h.rs⟩
  · rw [hc2] at e
    refine gz h <| (W) ?_; clear h ac wo; intro ac wo h
    exact aK ⟨m1, by omega, i + 1, by omega, by omega, by rw [e]; exact h.rs⟩
 ·
  have hd1 : ¬ i + 1 < l.length := by have := of_decide_eq_false hc1; omega
  obtain rfl : i = l.length - 1 := by omega
  refine gz h <| (W) ?_; clear h ac wo; intro ac wo h
  exact rtc 1 h (h.retP (u := vR (nX l (l.length - 1))) rfl zm)
end Go.Sx
namespace Go.Sx
open Go Go.RowKit Go.Proofs
set_option maxRecDepth 100000
set_option maxHeartbeats 40000000
attribute [local irreducible] Code.wp wpList Rd Step ObS Ent
attribute [local irreducible] ao aN ah aw ay bP
theorem to1_ct (u : U Ln) (w0 : World) : Calls Tryz.prog 200 #[vUN u] w0 (dh w0 (vUN u) True) := by
 refine enter (N := 8) (args := [vUN u]) Tryz.func200 rfl rfl ?_; intro ac h
 refine gz h <| (xb) fun b1 => (xa) fun b2 => (W) ?_; clear h ac; intro ac wo h
 exact rtc 0 h (h.retP (u := vUN u) rfl trivial)
theorem from1_ct (u : U Ln) (w0 : World) : Calls Tryz.prog 221 #[vUN u] w0 (dh w0 (vUN u) True) := by
 refine enter (N := 8) (args := [vUN u]) Tryz.func221 rfl rfl ?_; intro ac h
 refine gz h <| (xb) fun b1 => (xa) fun b2 => (W) ?_; clear h ac; intro ac wo h
 exact rtc 0 h (h.retP (u := vUN u) rfl trivial)
theorem iS {α : Type} [Inhabited α] {l : List α} {i : Nat} (h : i < l.length) : l.take i ++ [gt l i] = l.take (i + 1) := by
 rw [List.take_succ_eq_append_getElem h, gD h]
theorem mapTo_ct (l : List (U Ln)) (lv : Value) (hl : l.length ≤ 1000) (w0 : World) (hlv : View w0 lv l) : Calls Tryz.prog 199 #[lv, .func (.func 200) #[] #[]] w0 (RetR w0 199 l True) := by
 refine enter (N := 22) (args := [lv, .func (.func 200) #[] #[]]) Tryz.func199 rfl rfl ?_; intro ac h
 have hlen := hlv.len
 refine gz h <| (W) ?_; clear h ac; intro ac wo h
 replace h := h.nilRow (α := U Ln) 199
 refine wp_loop_ghost (fun n_ a_ w_ => ∃ (i : Nat) (sv : Value), (l.length - i < n_) ∧ (i ≤ l.length) ∧ St w0 22 [(1, .func (.func 200) #[] #[]), (5, sv), (8, lv), (9, iN l.length), (10, iN i)] [.row (α := U Ln) 199 sv (l.take i)] a_ w_) (l.length + 1) ⟨0, _, by omega, by omega, h.re [0]⟩ ?_
 clear h ac wo; rintro n1 ac wo ⟨i, sv, hm1, hi, h⟩
 obtain ⟨m1, rfl⟩ : ∃ m, n1 = m + 1 := ⟨n1 - 1, by omega⟩
 refine gz h <| (ai) ?_ ?_ <;> clear h ac wo <;> intro ac wo h hc1
 ·
  have hd1 := of_decide_eq_true hc1
  refine gz h <| (xa) fun b1 => (xk (to1_ct (gt l i))) <| (W) ?_; clear h ac wo; intro ac wo h
  refine nw h (di (α := U Ln) (xs := [.tmp 17]) (vs := [vUN (gt l i)]) [gt l i] fS rfl rfl rfl (by decide)) rfl ?_; clear h ac wo; intro s1 ac wo _ h
  refine on2 h 2 0 rfl rfl (fW (xs := l.take i) (ys := [gt l i]) fS (fun w hs => (row_view hs 0 rfl)) rfl rfl (by rw [List.length_take]; show _ + 1 ≤ _; omega)) rfl ?_; clear h ac wo; intro s2 ac wo _ h
  rw [iS (by omega)] at h
  refine gz h <| (W) ?_; clear h ac wo; intro ac wo h
  exact aK ⟨m1, by omega, i + 1, s2, by omega, by omega, h.re [0]⟩
 ·
  have hd1 := of_decide_eq_false hc1
  obtain rfl : i = l.length := by omega
  rw [List.take_length] at h
  refine gz h <| (W) ?_; clear h ac wo; intro ac wo h
  exact (rt h) (h.retR 0 rfl trivial)
theorem t8 (l : List (U Ln)) (lv : Value) (hl : l.length ≤ 1000) (w0 : World) (hlv : View w0 lv l) : Calls Tryz.prog 220 #[lv, .func (.func 221) #[] #[]] w0 (RetR w0 88 l True) := by
 refine enter (N := 22) (args := [lv, .func (.func 221) #[] #[]]) Tryz.func220 rfl rfl ?_; intro ac h
 have hlen := hlv.len
 refine gz h <| (W) ?_; clear h ac; intro ac wo h
 replace h := h.nilRow (α := U Ln) 88
 refine wp_loop_ghost (fun n_ a_ w_ => ∃ (i : Nat) (sv : Value), (l.length - i < n_) ∧ (i ≤ l.length) ∧ St w0 22 [(1, .func (.func 221) #[] #[]), (5, sv), (8, lv), (9, iN l.length), (10, iN i)] [.row (α := U Ln) 88 sv (l.take i)] a_ w_) (l.length + 1) ⟨0, _, by omega, by omega, h.re [0]⟩ ?_
 clear h ac wo; rintro n1 ac wo ⟨i, sv, hm1, hi, h⟩
 obtain ⟨m1, rfl⟩ : ∃ m, n1 = m + 1 := ⟨n1 - 1, by omega⟩
 refine gz h <| (ai) ?_ ?_ <;> clear h ac wo <;> intro ac wo h hc1
 ·
  have hd1 := of_decide_eq_true hc1
  refine gz h <| (xa) fun b1 => (xk (from1_ct (gt l i))) <| (W) ?_; clear h ac wo; intro ac wo h
  refine nw h (di (α := U Ln) (xs := [.tmp 17]) (vs := [vUN (gt l i)]) [gt l i] kA rfl rfl rfl (by decide)) rfl ?_; clear h ac wo; intro s1 ac wo _ h
  refine on2 h 2 0 rfl rfl (fW (xs := l.take i) (ys := [gt l i]) kA (fun w hs => (row_view hs 0 rfl)) rfl rfl (by rw [List.length_take]; show _ + 1 ≤ _; omega)) rfl ?_; clear h ac wo; intro s2 ac wo _ h
  rw [iS (by omega)] at h
  refine gz h <| (W) ?_; clear h ac wo; intro ac wo h
  exact aK ⟨m1, by omega, i + 1, s2, by omega, by omega, h.re [0]⟩
 ·
  have hd1 := of_decide_eq_false hc1
  obtain rfl : i = l.length := by omega
  rw [List.take_length] at h
  refine gz h <| (W) ?_; clear h ac wo; intro ac wo h
  exact (rt h) (h.retR 0 rfl trivial)
theorem to_ct (l : List (U Ln)) (lv : Value) (hl : l.length ≤ 1000) (w0 : World) (hlv : View w0 lv l) : Calls Tryz.prog 100 #[lv] w0 (RetR w0 199 l True) := by
 refine enter (N := 5) (args := [lv]) Tryz.func100 rfl rfl ?_; intro ac h
 refine gz h <| (W) ?_; clear h ac; intro ac wo h
 refine fN (xs := l) h (cP Tryz.call199 rfl) (fun w_ hB_ hS_ => mapTo_ct l lv hl w_ (hlv.below hB_)) rfl ?_; clear h ac wo; intro s1 ac wo _ h
 refine gz h <| (W) ?_; clear h ac wo; intro ac wo h
 exact (rt h) (h.retR 0 rfl trivial)
theorem r6 (l : List (U Ln)) (lv : Value) (hl : l.length ≤ 1000) (w0 : World) (hlv : View w0 lv l) : Calls Tryz.prog 138 #[lv] w0 (RetR w0 88 l True) := by
 refine enter (N := 5) (args := [lv]) Tryz.func138 rfl rfl ?_; intro ac h
 refine gz h <| (W) ?_; clear h ac; intro ac wo h
 refine fN (xs := l) h (cP Tryz.call220 rfl) (fun w_ hB_ hS_ => t8 l lv hl w_ (hlv.below hB_)) rfl ?_; clear h ac wo; intro s1 ac wo _ h
 refine gz h <| (W) ?_; clear h ac wo; intro ac wo h
 exact (rt h) (h.retR 0 rfl trivial)
theorem units_ct (l : List (U Ln)) (lv : Value) (hl : l.length ≤ 1000) (w0 : World) (hlv : View w0 lv l) : Calls Tryz.prog 42 #[lv] w0 (RetR w0 199 l True) := by
 refine enter (N := 26) (args := [lv]) Tryz.func42 rfl rfl ?_; intro ac h
 have hlen := hlv.len
 refine gz h <| (W) ?_; clear h ac; intro ac wo h
 replace h := h.nilRow (α := U Ln) 199
 refine wp_loop_ghost (fun n_ a_ w_ => ∃ (i : Nat) (sv : Value), (l.length - i < n_) ∧ (i ≤ l.length) ∧ St w0 26 [(0, lv), (3, sv), (4, iN i)] [.row (α := U Ln) 199 sv (l.take i)] a_ w_) (l.length + 1) ⟨0, _, by omega, by omega, h.re [0]⟩ ?_
 clear h ac wo; rintro n1 ac wo ⟨i, sv, hm1, hi, h⟩
 obtain ⟨m1, rfl⟩ : ∃ m, n1 = m + 1 := ⟨n1 - 1, by omega⟩
 refine gz h <| (ai) ?_ ?_ <;> clear h ac wo <;> intro ac wo h hc1
 ·
  have hd1 := of_decide_eq_true hc1
  refine gz h <| (W) ?_; clear h ac wo; intro ac wo h
  replace h := h.emps 1
  refine ef mixed [dv _, dv _, dv _, dv _, dv _, dv (vV (gt l i).iv), dv _, dv _, dv _, dv _, dv (vN (gt l i).f), dv (vUN (gt l i)), ⟨.nd (.one 12 fun v => NN v 1), [1]⟩, ⟨.nd (.con True), [0, 1]⟩, ⟨.nd (.two 14 13 fun a b => a = b), []⟩]
   [⟨.row (α := U Ln) 199 sv (l.take i), [(13, .one 13 fun v => .row (α := U Ln) 199 v (l.take i ++ [gt l i]))]⟩, ⟨.emp, [(12, .one 12 fun v => .row (α := U Ln) 199 v [gt l i])]⟩] h rfl (by kernel_rfl)
   ⟨oA obA, oA obA, oA obA, oA obA, oA obA, oA obA, oA obA, oA obA, oA obA, oA obA, oA obA, oA fun _ => a6 (bA lF rfl rfl rfl), fun _ _ => kY 1 (gt l i) fS rfl rfl, fun _ _ => qo (j := 12) 0 1 fS rfl rfl (by rw [List.length_take]; omega) rfl (fun v => by simp only [cA, bn] <;> rfl), fun _ _ => kZ (j := 13) (by decide) rfl, trivial⟩ ?_
  clear h ac wo; intro ξ ac wo hφ h
  replace h : St w0 26 [(0, lv), (3, ξ 14), (4, iN i)] [.row (α := U Ln) 199 (ξ 13) (l.take i ++ [gt l i])] ac wo := (h.pick [0] (by decide)).sub ⟨rfl, rfl, rfl, trivial⟩
  rw [show ξ 14 = ξ 13 from hφ 14, iS (by omega)] at h
  generalize ξ 13 = s2 at h; clear hφ ξ
  refine gz h <| (W) ?_; clear h ac wo; intro ac wo h
  exact aK ⟨m1, by omega, i + 1, s2, by omega, by omega, h.re [0]⟩
 ·
  have hd1 := of_decide_eq_false hc1
  obtain rfl : i = l.length := by omega
  rw [List.take_length] at h
  refine gz h <| (W) ?_; clear h ac wo; intro ac wo h
  exact (rt h) (h.retR 0 rfl trivial)
theorem vG (l : List (U Ln)) (lv : Value) (hl : l.length ≤ 1000) (w0 : World) (hlv : View w0 lv l) : Calls Tryz.prog 139 #[lv] w0 (RetR w0 88 l True) := by
 refine enter (N := 26) (args := [lv]) Tryz.func139 rfl rfl ?_; intro ac h
 have hlen := hlv.len
 refine gz h <| (W) ?_; clear h ac; intro ac wo h
 replace h := h.nilRow (α := U Ln) 88
 refine wp_loop_ghost (fun n_ a_ w_ => ∃ (i : Nat) (sv : Value), (l.length - i < n_) ∧ (i ≤ l.length) ∧ St w0 26 [(0, lv), (3, sv), (4, iN i)] [.row (α := U Ln) 88 sv (l.take i)] a_ w_) (l.length + 1) ⟨0, _, by omega, by omega, h.re [0]⟩ ?_
 clear h ac wo; rintro n1 ac wo ⟨i, sv, hm1, hi, h⟩
 obtain ⟨m1, rfl⟩ : ∃ m, n1 = m + 1 := ⟨n1 - 1, by omega⟩
 refine gz h <| (ai) ?_ ?_ <;> clear h ac wo <;> intro ac wo h hc1
 ·
  have hd1 := of_decide_eq_true hc1
  refine gz h <| (W) ?_; clear h ac wo; intro ac wo h
  replace h := h.emps 1
  refine ef mixed [dv _, dv _, dv _, dv _, dv _, dv (vV (gt l i).iv), dv _, dv _, dv _, dv _, dv (vN (gt l i).f), dv (vUN (gt l i)), ⟨.nd (.one 12 fun v => NN v 1), [1]⟩, ⟨.nd (.con True), [0, 1]⟩, ⟨.nd (.two 14 13 fun a b => a = b), []⟩]
   [⟨.row (α := U Ln) 88 sv (l.take i), [(13, .one 13 fun v => .row (α := U Ln) 88 v (l.take i ++ [gt l i]))]⟩, ⟨.emp, [(12, .one 12 fun v => .row (α := U Ln) 88 v [gt l i])]⟩] h rfl (by kernel_rfl)
   ⟨oA obA, oA obA, oA obA, oA obA, oA obA, oA obA, oA obA, oA obA, oA obA, oA obA, oA obA, oA fun _ => a6 (bA sh rfl rfl rfl), fun _ _ => kY 1 (gt l i) kA rfl rfl, fun _ _ => qo (j := 12) 0 1 kA rfl rfl (by rw [List.length_take]; omega) rfl (fun v => by simp only [cA, bn] <;> rfl), fun _ _ => kZ (j := 13) (by decide) rfl, trivial⟩ ?_
  clear h ac wo; intro ξ ac wo hφ h
  replace h : St w0 26 [(0, lv), (3, ξ 14), (4, iN i)] [.row (α := U Ln) 88 (ξ 13) (l.take i ++ [gt l i])] ac wo := (h.pick [0] (by decide)).sub ⟨rfl, rfl, rfl, trivial⟩
  rw [show ξ 14 = ξ 13 from hφ 14, iS (by omega)] at h
  generalize ξ 13 = s2 at h; clear hφ ξ
  refine gz h <| (W) ?_; clear h ac wo; intro ac wo h
  exact aK ⟨m1, by omega, i + 1, s2, by omega, by omega, h.re [0]⟩
 ·
  have hd1 := of_decide_eq_false hc1
  obtain rfl : i = l.length := by omega
  rw [List.take_length] at h
  refine gz h <| (W) ?_; clear h ac wo; intro ac wo h
  exact (rt h) (h.retR 0 rfl trivial)
end Go.Sx
namespace Go.Sx
open Go Go.RowKit Go.Proofs
set_option maxRecDepth 100000
set_option maxHeartbeats 40000000
attribute [local irreducible] Code.wp wpList Rd Step ObS Ent
attribute [local irreducible] ao aN ah aw ay bP
attribute [local irreducible] aU aR ak an aD aj
def mb (l : List GR) (n : Nat) : GR := (List.range n).foldl (fun m i => bif decide (ao (gt l (i + 1)) m > 0) then gt l (i + 1) else m) (gt l 0)
theorem qC (l : List GR) (n : Nat) : mb l (n + 1) = (bif decide (ao (gt l (n + 1)) (mb l n) > 0) then gt l (n + 1) else mb l n) := by
 unfold mb; rw [List.range_succ, List.foldl_append]; rfl
theorem wg {P : GR → Prop} {l : List GR} (h : ∀ i, P (gt l i)) : ∀ n, P (mb l n)
 | 0 => h 0
 | n + 1 => by
  rw [qC]
  cases decide (ao (gt l (n + 1)) (mb l n) > 0)
  · exact wg h n
  · exact h _
theorem maxR_ct (l : List GR) (lv : Value) (hl : l.length ≤ 1000) (h0 : 0 < l.length) (zl : ∀ i, SzR 30 (gt l i)) (w0 : World) (hlv : View w0 lv l) : Calls Tryz.prog 185 #[lv, .func (.func 127) #[] #[]] w0 (dh w0 (vR (mb l (l.length - 1))) (SzR 30 (mb l (l.length - 1)))) := by
 refine enter (N := 33) (args := [lv, .func (.func 127) #[] #[]]) Tryz.func185 rfl rfl ?_; intro ac h
 have hlen := hlv.len
 refine gz h <| (xa) fun b1 => (ai) ?_ ?_ <;> clear h ac <;> intro ac wo h hc1
 · have := of_decide_eq_true hc1; omega
 refine gz h <| (xa) fun b2 => (W) ?_; clear h ac wo; intro ac wo h
 refine wp_loop_ghost (fun n_ a_ w_ => ∃ (i : Nat), (l.length - i < n_) ∧ (i < l.length) ∧ St w0 33 [(0, lv), (1, .func (.func 127) #[] #[]), (4, ptr b1 0), (5, ptr b2 0), (6, iN (i + 1))] [.blk b2 (cR (mb l i)) 71, .blk b1 (cR ⟨oQ, oQ, false⟩) 71] a_ w_) (l.length + 1) ⟨0, by omega, by omega, h.rs⟩ ?_
 clear h ac wo; rintro n1 ac wo ⟨i, hm1, hi, h⟩
 obtain ⟨m1, rfl⟩ : ∃ m, n1 = m + 1 := ⟨n1 - 1, by omega⟩
 have zm : SzR 30 (mb l i) := wg (P := SzR 30) zl i
 refine gz h <| (ai) ?_ ?_ <;> clear h ac wo <;> intro ac wo h hc1
 ·
  have hd1 : i + 1 < l.length := by have := of_decide_eq_true hc1; omega
  have c1 := dl (gt l (i + 1)) (mb l i) 10 og (zl _) zm
  have e := qC l i
  refine gz h <| (dr0 (hob := (oK c1) <| oE)) <| (ai) ?_ ?_ <;> clear h ac wo <;> intro ac wo h hc2
  · rw [hc2] at e
    refine gz h <| (W) ?_; clear h ac wo; intro ac wo h
    exact aK ⟨m1, by omega, i + 1, by omega, by omega, by rw [e]; exact h.rs⟩
  · rw [hc2] at e
    refine gz h <| (W) ?_; clear h ac wo; intro ac wo h
    exact aK ⟨m1, by omega, i + 1, by omega, by omega, by rw [e]; exact h.rs⟩
 ·
  have hd1 : ¬ i + 1 < l.length := by have := of_decide_eq_false hc1; omega
  obtain rfl : i = l.length - 1 := by omega
  refine gz h <| (W) ?_; clear h ac wo; intro ac wo h
  exact rtc 1 h (h.retP (u := vR (mb l (l.length - 1))) rfl zm)
theorem ua (l : List (U Ln)) (lv : Value) (hl : l.length < 20) (zl : All (gG 30) l) (w0 : World) (hlv : View w0 lv l) : Calls Tryz.prog 46 #[lv] w0 (RetT w0 88 (az l).1 [.int .i64 (az l).2] (All (gG 20) (az l).1 ∧ (az l).1.length ≤ 3 * l.length)) := by
 refine enter (N := 17) (args := [lv]) Tryz.func46 rfl rfl ?_; intro ac h
 have p1 := RetT.pr (dL l lv hl zl w0 hlv)
 refine gz h <| (W) ?_; clear h ac; intro ac wo h
 refine fN (xs := l) h (cP Tryz.call100 rfl) (fun w_ hB_ hS_ => to_ct l lv (by omega) w_ (hlv.below hB_)) rfl ?_; clear h ac wo; intro s1 ac wo _ h
 refine gz h <| (W) ?_; clear h ac wo; intro ac wo h
 refine rb (xs := (az l).1) h (cP Tryz.call132 rfl) (fun w_ hB_ hS_ => dL l s1 hl zl w_ (row_view hS_ 0 rfl)) rfl ?_; clear h ac wo; intro s2 ac wo _ h
 refine gz h <| (W) ?_; clear h ac wo; intro ac wo h
 refine fN (xs := (az l).1) h (cP Tryz.call138 rfl) (fun w_ hB_ hS_ => r6 _ s2 (by omega) w_ (row_view hS_ 0 rfl)) rfl ?_; clear h ac wo; intro s3 ac wo _ h
 refine gz h <| (W) ?_; clear h ac wo; intro ac wo h
 exact (rt h) (h.retT 0 rfl rfl p1)
theorem kb (l : List (U Ln)) (lv : Value) (hl : l.length < 20) (zl : All (gG 30) l) (w0 : World) (hlv : View w0 lv l) : Calls Tryz.prog 47 #[lv] w0 (RetT w0 88 (az l).1 [.int .i64 (az l).2] (All (gG 20) (az l).1 ∧ (az l).1.length ≤ 3 * l.length)) := by
 refine enter (N := 17) (args := [lv]) Tryz.func47 rfl rfl ?_; intro ac h
 have p1 := RetT.pr (dL l lv hl zl w0 hlv)
 refine gz h <| (W) ?_; clear h ac; intro ac wo h
 refine fN (xs := l) h (cP Tryz.call42 rfl) (fun w_ hB_ hS_ => units_ct l lv (by omega) w_ (hlv.below hB_)) rfl ?_; clear h ac wo; intro s1 ac wo _ h
 refine gz h <| (W) ?_; clear h ac wo; intro ac wo h
 refine rb (xs := (az l).1) h (cP Tryz.call132 rfl) (fun w_ hB_ hS_ => dL l s1 hl zl w_ (row_view hS_ 0 rfl)) rfl ?_; clear h ac wo; intro s2 ac wo _ h
 refine gz h <| (W) ?_; clear h ac wo; intro ac wo h
 refine fN (xs := (az l).1) h (cP Tryz.call139 rfl) (fun w_ hB_ hS_ => vG _ s2 (by omega) w_ (row_view hS_ 0 rfl)) rfl ?_; clear h ac wo; intro s3 ac wo _ h
 refine gz h <| (W) ?_; clear h ac wo; intro ac wo h
 exact (rt h) (h.retT 0 rfl rfl p1)
end Go.Sx
