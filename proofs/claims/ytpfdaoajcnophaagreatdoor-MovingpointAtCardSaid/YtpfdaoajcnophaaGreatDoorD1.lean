/- A part of the proof of movingpointAt. -/
import Derived.Test.YtpfdaoajcnophaaGreatDoorC9
set_option linter.unusedVariables false
set_option linter.unusedSimpArgs false
open Go.Proofs.Tryz renaming runUnderlying24 → uu24, runUnderlying148 → uu148, call26 → cc26
namespace Go.Sx
open Go Go.RowKit Go.Proofs
set_option maxRecDepth 100000
set_option maxHeartbeats 40000000
attribute [local irreducible] Code.wp wpList Rd Step ObS Ent
attribute [local irreducible] ao aK ak ap ax bI ah
attribute [local irreducible] aD aM am az aR aj aX
def cSq (s : Stq) : List Value := [.int .u8 ((s.time : Nat) : Int), .int .u8 ((s.x : Nat) : Int), .int .u8 ((s.y : Nat) : Int), .int .u8 ((s.kind : Nat) : Int)]
def vSq (s : Stq) : Value := .agg (cSq s).toArray
def cCr (c : Crq) (sv : Value) : List Value := [.int .u8 ((c.time : Nat) : Int), .int .u8 ((c.x : Nat) : Int), .int .u8 ((c.y : Nat) : Int), sv]
def vCr (c : Crq) (sv : Value) : Value := .agg (cCr c sv).toArray
instance yD1_1 : Cod Stq := ⟨cSq, 4, fun _ => rfl, fun x => by simp [cSq, Value.oneCell'], by decide⟩
instance yD1_2 (s : Stq) : Cel (vSq s) (cSq s) := ⟨rfl⟩
instance yD1_3 (s : Stq) : Dc (cSq s) (vSq s) := ⟨rfl⟩
instance yD1_4 (c : Crq) (sv : Value) : Cel (vCr c sv) (cCr c sv) := ⟨rfl⟩
instance yD1_5 (c : Crq) (sv : Value) : Dc (cCr c sv) (vCr c sv) := ⟨rfl⟩
instance yD1_6 : Sz Tryz.prog 24 4 := ⟨Tryz.sizeOf24⟩
instance yD1_7 : Sz Tryz.prog 148 4 := ⟨Tryz.sizeOf148⟩
instance yD1_8 : Sz Tryz.prog 22 1 := ⟨Tryz.sizeOf22⟩
instance yD1_9 : Ag Tryz.prog 24 true := ⟨Tryz.isAgg24⟩
instance yD1_10 : Ag Tryz.prog 148 true := ⟨Tryz.isAgg148⟩
instance yD1_11 : Ag Tryz.prog 22 false := ⟨Tryz.isAgg22⟩
instance yD1_12 : Un Tryz.prog 22 (.slice 148) := ⟨Tryz.runUnderlying22⟩
instance yD1_13 : Fl Tryz.prog 24 0 5 0 := ⟨⟨_, _, uu24, rfl, rfl, rfl⟩⟩
instance yD1_14 : Fl Tryz.prog 24 1 5 1 := ⟨⟨_, _, uu24, rfl, rfl, rfl⟩⟩
instance yD1_15 : Fl Tryz.prog 24 2 5 2 := ⟨⟨_, _, uu24, rfl, rfl, rfl⟩⟩
instance yD1_16 : Fl Tryz.prog 24 3 22 3 := ⟨⟨_, _, uu24, rfl, rfl, rfl⟩⟩
instance yD1_17 : Fl Tryz.prog 148 0 5 0 := ⟨⟨_, _, uu148, rfl, rfl, rfl⟩⟩
instance yD1_18 : Fl Tryz.prog 148 1 5 1 := ⟨⟨_, _, uu148, rfl, rfl, rfl⟩⟩
instance yD1_19 : Fl Tryz.prog 148 2 5 2 := ⟨⟨_, _, uu148, rfl, rfl, rfl⟩⟩
instance yD1_20 : Fl Tryz.prog 148 3 5 3 := ⟨⟨_, _, uu148, rfl, rfl, rfl⟩⟩
instance yD1_21 : Zc Tryz.prog 148 (cSq ⟨0, 0, 0, 0⟩) := ⟨⟨_, Tryz.zeroValue148, rfl⟩⟩
instance yD1_22 : Sh Tryz.prog 148 Stq vSq := ⟨trivial⟩
section
variable {P : Program} {w0 : World} {F : List (Nat × Value)} {t tt : TypeId} {x y : Operand}
theorem rmN (d : Nat) {k : IntKind} {m : Nat} (hx : ev F x = some (.int k ((m : Nat) : Int))) (hy : ev F y = some (.int k ((d : Nat) : Int))) (h : Nat.blt 0 d = true) : Rd P w0 F [] (.binOp .rem t x y tt) (.int k ((m % d : Nat) : Int)) :=
  sF hx hy (by have := Nat.le_of_ble_eq_true h; omega) (by rw [Int.tmod_eq_emod_of_nonneg (by omega)]; rfl)
theorem cvI {m : Nat} (hm : m < 256) (hx : ev F x = some (.int .u8 ((m : Nat) : Int))) : Rd Tryz.prog w0 F [] (.convert 5 3 x) (.int .i64 ((m : Nat) : Int)) :=
  bc Tryz.runUnderlying5 Tryz.runUnderlying3 hx (by rw [IntKind.wrap_i64]; omega)
end
theorem toInt_N (n : Nat) : bR (ak (n : Int)).num = (n : Int) := by
  have e : (ak (n : Int)).num = ay (n : Int) := by unfold ak; rfl
  rw [e]
  refine Eq.trans (b := fi (ay (n : Int))) ?_ (fS (n : Int))
  generalize ay (n : Int) = g
  unfold bR fi
  cases g.neg <;> rfl
theorem mag_N (n : Nat) : (ak (n : Int)).num.mag = n := by
  have e : (ak (n : Int)).num = ay (n : Int) := by unfold ak; rfl
  rw [e, ← fP, fS]; rfl
theorem t_nrmM {P : Program} {Q : Exit → Act → World → Prop} {y : Code} {a : Act} {w : World} (h : y.wp P Q a w) : thn P y Q .normal a w := by unfold thn; exact h
theorem jn {P : Program} {Q : Exit → Act → World → Prop} {x y : Code} {a : Act} {w : World} (M : Act → World → Prop) (h : x.wp P (fun e a w => e = .normal ∧ M a w) a w) (k : ∀ a w, M a w → y.wp P Q a w) : x.wp P (thn P y Q) a w :=
  Code.wp_mono (fun e a w h => by obtain ⟨rfl, h⟩ := h; exact t_nrmM (k a w h)) h
end Go.Sx
namespace Go.Sx
open Go Go.RowKit Go.Proofs
set_option maxRecDepth 100000
set_option maxHeartbeats 40000000
attribute [local irreducible] Code.wp wpList Rd Step ObS Ent
attribute [local irreducible] ao aK ak ap ax bI ah
attribute [local irreducible] aD aM am az aR aj aX dF iV bR
def B4 (q : Stq) : Prop := q.time < 256 ∧ q.x < 256 ∧ q.y < 256 ∧ q.kind < 256
theorem qV (t x y : Nat) (ht : t < 100000) (hx : x < 100000) (hy : y < 100000) (w0 : World) : Calls Tryz.prog 89 #[.int .i64 (t : Int), .int .i64 (x : Int), .int .i64 (y : Int)] w0 (RetP w0 (vSm (d7 t x y)) (vk 40 (d7 t x y))) :=
  lM t x y 40 (by omega) (by omega) (by omega) (by omega) w0
theorem fldP {w0 : World} {F : List (Nat × Value)} {x : Operand} {m : Smp} (hx : ev F x = some (vSm m)) : Rd Tryz.prog w0 F [] (.field 145 x 1) (vPt m.p) :=
  r_field Tryz.runUnderlying145 rfl Tryz.isAgg39 Tryz.sizeOf39 hx rfl
section
variable [K : Key] [KeyZ] [KeyB]
omit [KeyZ] [KeyB] in
theorem sr {u : U Ln} (h : Wv u.iv) {m : Nat} (hf : BL m u.f) (hm : m ≤ 240) : jh 30 u := ⟨wvs (jm h) _ (List.mem_singleton.2 rfl), jE (hf.sz hm) og⟩
omit [KeyB] in
theorem qK (c : Crq) (s : List Stq) (sv : Value) (hc : c.time < 256 ∧ c.x < 256 ∧ c.y < 256) (hs : ∀ i, B4 (gt s i)) (hl : s.length ≤ 6) (w0 : World) (hsv : View w0 sv s) : Calls Tryz.prog 109 #[vCr c sv] w0 (RetR w0 165 (fz c s) True) := by
 refine enter (N := 133) (args := [vCr c sv]) Tryz.func109 rfl rfl ?_; intro ac h
 haveI : On := ⟨trivial⟩
 have hlen := hsv.len
 have c0 := qV (c.time % 16) (c.x % 64) (c.y % 64) (by omega) (by omega) (by omega)
 refine gz h <| (xb) fun b1 => (xo (hs := by exact rmN 16 rfl rfl rfl)) <| (xo (hs := by exact cvI (by omega) rfl)) <| (xo (hs := by exact rmN 64 rfl rfl rfl)) <| (xo (hs := by exact cvI (by omega) rfl)) <| (xo (hs := by exact rmN 64 rfl rfl rfl)) <| (xo (hs := by exact cvI (by omega) rfl)) <| (xk c0) <| (xa) fun b4 => (W) ?_
 clear h ac; intro ac wo h
 replace h := h.nilRow (α := U Ln) 165
 refine wp_loop_ghost (fun n_ a_ w_ => ∃ (i : Nat) (ov : Value) (st : TS), (s.length - i < n_) ∧ (i ≤ s.length) ∧ tsN c s i = st ∧ TsI st i ∧ St w0 133 [(1, ptr b1 0), (3, ov), (4, ptr b4 0), (5, .bool st.alone), (6, iN i)] [.row (α := U Ln) 165 ov st.out, .blk b1 (cCr c sv) 24, .blk b4 (cSm (d7 st.t st.x st.y)) 145] a_ w_) (s.length + 1)
  ⟨0, _, _, by omega, by omega, rfl, vw c, h.re [0, 2, 1]⟩ ?_
 clear h ac; rintro n1 ac wo ⟨i, ov, st, hm1, hi, hst, hI, h⟩
 obtain ⟨m1, rfl⟩ : ∃ m, n1 = m + 1 := ⟨n1 - 1, by omega⟩
 have hT := hI.t
 have hX := hI.x
 have hY := hI.y
 have hO := hI.len
 refine gz h <| (ai) ?_ ?_ <;> clear h ac wo <;> intro ac wo h hc1
 ·
  have hd1 : i < s.length := by
   rw [Bool.and_eq_true] at hc1
   have := of_decide_eq_true hc1.1; omega
  clear hc1
  have hq := hs i
  obtain ⟨q, hqe⟩ : ∃ q, gt s i = q := ⟨_, rfl⟩
  rw [hqe] at hq
  obtain ⟨q1, q2, q3, q4⟩ := hq
  have ct := iY (ak (st.t : Int)).num (by rw [mag_N]; omega)
  rw [toInt_N] at ct
  have cn := qV (st.t + 1 + q.time % 8) (q.x % 64) (q.y % 64) (by omega) (by omega) (by omega)
  have ck := qV 0 (q.y % 64) (q.x % 64) (by omega) (by omega) (by omega)
  refine gz h <| (W) ?_; clear h ac wo; intro ac wo h
  rw [hqe] at h
  refine gz h <| (xa) fun b7 => (xk ct) <| (W) ?_; clear h ac wo; intro ac wo h
  refine gz h <| (xo (hs := by exact rmN 8 rfl rfl rfl)) <| (xo (hs := by exact cvI (by omega) rfl)) <| (xo (hs := by exact rmN 64 rfl rfl rfl)) <| (xo (hs := by exact cvI (by omega) rfl)) <| (xo (hs := by exact rmN 64 rfl rfl rfl)) <| (xo (hs := by exact cvI (by omega) rfl)) <| (xk cn) <| (xa) fun b10 => (xa) fun b11 => (W) ?_; clear h ac wo; intro ac wo h
  obtain ⟨nx, hnx⟩ : ∃ nx, d7 ((st.t + 1 + q.time % 8 : Nat) : Int) ((q.x % 64 : Nat) : Int) ((q.y % 64 : Nat) : Int) = nx := ⟨_, rfl⟩
  have znx : vk 40 nx := by rw [← hnx]; exact an (cn w0)
  have zfr : vk 40 (d7 (st.t : Int) (st.x : Int) (st.y : Int)) := an (qV st.t st.x st.y (by omega) (by omega) (by omega) w0)
  have zfk : vk 40 (d7 ((0 : Nat) : Int) ((q.y % 64 : Nat) : Int) ((q.x % 64 : Nat) : Int)) := an (ck w0)
  rw [hnx] at h
  refine gz h <| (xo (hs := by exact rmN 8 rfl rfl rfl)) <| (W) ?_; clear h ac wo; intro ac wo h
  obtain ⟨fr, hfr⟩ : ∃ fr, (bif decide (q.kind % 8 = 1) then d7 st.t ((q.y % 64 : Nat) : Int) ((q.x % 64 : Nat) : Int) else d7 st.t st.x st.y) = fr := ⟨_, rfl⟩
  have hft : fr.t = ak (st.t : Int) := by rw [← hfr]; cases decide (q.kind % 8 = 1) <;> rfl
  have zf : vk 40 fr := by
   rw [← hfr]
   cases decide (q.kind % 8 = 1) with
   | false => exact zfr
   | true => exact ⟨zfr.1, zfk.2⟩
  refine jn (fun a w => St w0 133 [(1, ptr b1 0), (3, ov), (4, ptr b4 0), (5, .bool st.alone), (6, iN i), (7, ptr b7 0), (10, ptr b10 0), (11, ptr b11 0)] [.row (α := U Ln) 165 ov st.out, .blk b1 (cCr c sv) 24, .blk b4 (cSm (d7 st.t st.x st.y)) 145, .blk b7 (cSq q) 148, .blk b10 (cSm nx) 145, .blk b11 (cSm fr) 145] a w) ?_ ?_
  ·
   refine gz h <| (ai) ?_ ?_ <;> clear h ac wo <;> intro ac wo h hc1
   ·
    have e : fr = d7 st.t ((q.y % 64 : Nat) : Int) ((q.x % 64 : Nat) : Int) := by rw [← hfr, decide_eq_true (by have := eq_of_beq hc1; omega)]; rfl
    refine gz h <| (xo (hs := by exact rmN 64 rfl rfl rfl)) <| (xo (hs := by exact cvI (by omega) rfl)) <| (xo (hs := by exact rmN 64 rfl rfl rfl)) <| (xo (hs := by exact cvI (by omega) rfl)) <| (xk ck) <| (xo (hs := by exact fldP rfl)) <| (xs 0 (cSm fr) (hr := by rw [e]; rfl)) <| (W) ?_; clear h ac wo; intro ac wo h
    exact ⟨rfl, h.re [3, 4, 5, 2, 1, 0]⟩
   ·
    have e : fr = d7 st.t st.x st.y := by rw [← hfr, decide_eq_false (by have := ne_of_beq_false hc1; omega)]; rfl
    rw [← e] at h
    refine gz h <| (W) ?_; clear h ac wo; intro ac wo h
    refine ⟨rfl, ?_⟩
    rw [← e]
    exact h.re [3, 4, 5, 2, 1, 0]
  ·
   clear h ac wo; intro ac wo h
   refine gz h <| (xo (hs := by exact rmN 8 rfl rfl rfl)) <| (W) ?_; clear h ac wo; intro ac wo h
   refine jn (fun a w => ∃ ov2, St w0 133 [(1, ptr b1 0), (3, ov2), (4, ptr b4 0), (5, .bool st.alone), (6, iN i), (7, ptr b7 0), (10, ptr b10 0)] [.row (α := U Ln) 165 ov2 (tsF st q).out, .blk b1 (cCr c sv) 24, .blk b4 (cSm (d7 st.t st.x st.y)) 145, .blk b7 (cSq q) 148, .blk b10 (cSm nx) 145] a w) ?_ ?_
   ·
    refine gz h <| (ai) ?_ ?_ <;> clear h ac wo <;> intro ac wo h hc1
    ·
     have hk : decide (q.kind % 8 = 0) = false := decide_eq_false (by have := ne_of_beq_false (by rw [bne, Bool.not_eq_true'] at hc1; exact hc1); omega)
     have hex : (tsF st q).out = st.out ++ [tsU st q] := by unfold tsF; rw [hk]; rfl
     have cf := cO fr.t 40 og zf.1
     have cx := cO nx.t 40 og znx.1
     have stO : StO fr nx := ⟨zf, znx⟩
     have cth := uB fr nx stO
     obtain ⟨v, hv⟩ : ∃ v : Iv, (⟨ah fr.t, ah nx.t, decide (((st.out.length : Nat) : Int) > 0) && !st.alone, false⟩ : Iv) = v := ⟨_, rfl⟩
     obtain ⟨u, hu⟩ : ∃ u : U Ln, (⟨v, dF fr nx⟩ : U Ln) = u := ⟨_, rfl⟩
     have eu : u = tsU st q := by
      rw [← hu, ← hv, hft, ← hfr, ← hnx]; unfold tsU inZ; rfl
     refine gz h <| (W) ?_; clear h ac wo; intro ac wo h
     replace h := h.emps 1
     refine fq mixed [dv _, dw (vQ fr.t) [5], dv (vR (ah fr.t)), dv _, dw (vQ nx.t) [4], dv (vR (ah nx.t)), dv _, dv _, dv _, dv _, dv _, dv _, dv _, dv (vV v), ⟨.nd (.one 14 fun v => ∃ b, v = ptr b 0), [6]⟩, dw undef [6]]
      [⟨_, []⟩, ⟨_, []⟩, ⟨_, []⟩, ⟨_, []⟩, ⟨_, []⟩, ⟨_, []⟩, ⟨.emp, [(14, .one 14 fun x => .blk (bE x) (cV default) 74), (15, .one 14 fun x => .blk (bE x) (cV v) 74)]⟩] h rfl (by kernel_rfl)
      ⟨oA obA, oA obA, oA fun _ => g7 (gg cc26 rfl cf), oA obA, oA obA, oA fun _ => g7 (gg cc26 rfl cx), oA obA, oA obA, oA obA, oA obA, oA obA, oA obA, oA obA, (by rw [← hv]; exact oA fun _ => aZ (bF mi rfl rfl rfl)), fun _ _ => kX 6 rfl (fun _ => rfl), fun ξ hφ => kW (u := vV v) 6 (hφ 14 rfl) rfl rfl rfl rfl rfl rfl rfl, trivial⟩ ?_
     clear h ac wo; intro ξ ac wo hφ h
     obtain ⟨b8, hb8⟩ : ∃ b, ξ 14 = ptr b 0 := hφ 14
     replace h : St w0 133 [(1, ptr b1 0), (3, ov), (4, ptr b4 0), (5, .bool st.alone), (6, iN i), (7, ptr b7 0), (10, ptr b10 0), (11, ptr b11 0), (12, ξ 14)] [.row (α := U Ln) 165 ov st.out, .blk b1 (cCr c sv) 24, .blk b4 (cSm (d7 st.t st.x st.y)) 145, .blk b7 (cSq q) 148, .blk b10 (cSm nx) 145, .blk b11 (cSm fr) 145, .blk (bE (ξ 14)) (cV v) 74] ac wo := (h.pick [0, 1, 2, 3, 4, 5, 6] (by decide)).sub ⟨rfl, rfl, rfl, rfl, rfl, rfl, rfl, rfl, rfl, trivial⟩
     rw [hb8] at h
     clear hb8 hφ ξ
     refine gz h <| (W) ?_; clear h ac wo; intro ac wo h
     replace h := h.emps 1
     refine fq mixed [dv _, dw (vV v) [6], dw (vSm fr) [5], dw (vSm nx) [4], dv (vN (dF fr nx)), dv (vUN u), ⟨.nd (.one 6 fun v => NN v 1), [7]⟩, ⟨.nd (.con True), [0, 7]⟩, ⟨.nd (.two 8 7 fun a b => a = b), []⟩]
      [⟨.row (α := U Ln) 165 ov st.out, [(7, .one 7 fun v => .row (α := U Ln) 165 v (st.out ++ [u]))]⟩, ⟨_, []⟩, ⟨_, []⟩, ⟨_, []⟩, ⟨_, []⟩, ⟨_, []⟩, ⟨_, []⟩, ⟨.emp, [(6, .one 6 fun v => .row (α := U Ln) 165 v [u])]⟩] h rfl (by kernel_rfl)
      ⟨oA obA, oA obA, oA obA, oA obA, oA fun _ => g7 (gg Tryz.call215 rfl cth), (by rw [← hu]; exact oA fun _ => aZ (bF vb rfl rfl rfl)), fun _ _ => oF 7 u mq rfl rfl, fun _ _ => wV (j := 6) 0 7 mq rfl rfl (by omega) rfl (fun v => by simp only [dh, bo] <;> rfl), fun _ _ => sM (j := 7) (by decide) rfl, trivial⟩ ?_
     clear h ac wo; intro ξ ac wo hφ h
     replace h : St w0 133 [(1, ptr b1 0), (3, ξ 8), (4, ptr b4 0), (5, .bool st.alone), (6, iN i), (7, ptr b7 0), (10, ptr b10 0)] [.row (α := U Ln) 165 (ξ 7) (st.out ++ [u]), .blk b1 (cCr c sv) 24, .blk b4 (cSm (d7 st.t st.x st.y)) 145, .blk b7 (cSq q) 148, .blk b10 (cSm nx) 145] ac wo := (h.pick [0, 1, 2, 3, 4] (by decide)).sub ⟨rfl, rfl, rfl, rfl, rfl, rfl, rfl, trivial⟩
     rw [show ξ 8 = ξ 7 from hφ 8, eu, ← hex] at h
     generalize ξ 7 = s2 at h; clear hφ ξ
     exact ⟨rfl, s2, h⟩
    ·
     have hk : decide (q.kind % 8 = 0) = true := decide_eq_true (by have := eq_of_beq (show (((q.kind % 8 : Nat) : Int) == 0) = true by rw [bne, Bool.not_eq_false'] at hc1; exact hc1); omega)
     have hex : (tsF st q).out = st.out := by unfold tsF; rw [hk]; rfl
     rw [← hex] at h
     refine gz h <| (W) ?_; clear h ac wo; intro ac wo h
     refine ⟨rfl, ov, ?_⟩
     exact h.re [0, 1, 2, 3, 4]
   ·
    clear h ac wo; rintro ac wo ⟨ov2, h⟩
    refine gz h <| (xo (hs := by exact rmN 8 rfl rfl rfl)) <| (W) ?_; clear h ac wo; intro ac wo h
    have e1 : (((q.kind % 8 : Nat) : Int) == 0) = (tsF st q).alone := by
     show _ = decide (q.kind % 8 = 0)
     rw [Bool.eq_iff_iff, beq_iff_eq, decide_eq_true_eq]; omega
    have e2 : nx = d7 (((tsF st q).t : Nat) : Int) (((tsF st q).x : Nat) : Int) (((tsF st q).y : Nat) : Int) := hnx.symm
    rw [e1, e2] at h
    have hN : tsN c s (i + 1) = tsF st q := by rw [tC c hd1, hst, hqe]
    refine aL ⟨m1, by omega, i + 1, ov2, tsF st q, by omega, by omega, hN, vv q (by omega) hI, h.re [0, 1, 2]⟩
 ·
  have hd1 : i = s.length := by
   have h6 : decide (((i : Nat) : Int) < 6) = false ∨ decide (((i : Nat) : Int) < ((s.length : Nat) : Int)) = false := by
    cases h1 : decide (((i : Nat) : Int) < ((s.length : Nat) : Int)) with
    | false => exact .inr rfl
    | true => rw [h1] at hc1; exact .inl hc1
   rcases h6 with h6 | h6
   · have := of_decide_eq_false h6; omega
   · have := of_decide_eq_false h6; omega
  subst hd1
  clear hc1
  have hU : trU c s = tsE st := by unfold trU; rw [Nat.min_eq_left hl, hst]
  obtain ⟨hw, _, hn, _⟩ := tD c s
  have zU : All (jh 30) (trU c s) := fun u hu => sr (hw u hu).1 (hw u hu).2 (by decide)
  refine gz h <| (W) ?_; clear h ac wo; intro ac wo h
  refine jn (fun a w => ∃ ov2, St w0 133 [(3, ov2)] [.row (α := U Ln) 165 ov2 (trU c s)] a w) ?_ ?_
  · 
   refine gz h <| (ai) ?_ ?_ <;> clear h ac wo <;> intro ac wo h hc1
   ·
    have zs := an (qV st.t st.x st.y (by omega) (by omega) (by omega) w0)
    obtain ⟨sm, hsm⟩ : ∃ sm, d7 (st.t : Int) (st.x : Int) (st.y : Int) = sm := ⟨_, rfl⟩
    have eq1 : inZ st.t = ah sm.t := by rw [← hsm]; rfl
    rw [hsm] at h zs
    have cf := cO sm.t 40 og zs.1
    have cs := still_ct sm.p 40 og zs.2
    refine gz h <| (xk cf) <| (xa) fun b13 => (W) ?_; clear h ac wo; intro ac wo h
    obtain ⟨u, hu⟩ : ∃ u : U Ln, (⟨⟨ah sm.t, ah sm.t, false, false⟩, iV sm.p⟩ : U Ln) = u := ⟨_, rfl⟩
    have e : trU c s = st.out ++ [u] := by rw [hU, ← hu, ← eq1]; unfold tsE; rw [hc1, hsm]; rfl
    obtain ⟨v, hv⟩ : ∃ v : Iv, (⟨ah sm.t, ah sm.t, false, false⟩ : Iv) = v := ⟨_, rfl⟩
    rw [hv] at hu
    replace h := h.emps 1
    refine fq mixed [dv _, dw (vR (ah sm.t)) [0], dw (vR (ah sm.t)) [0], dv (vV v), dv _, dw (vPt sm.p) [3], dv (vN (iV sm.p)), dv (vUN u), ⟨.nd (.one 8 fun v => NN v 1), [4]⟩, ⟨.nd (.con True), [1, 4]⟩, ⟨.nd (.two 10 9 fun a b => a = b), []⟩]
     [⟨_, []⟩, ⟨.row (α := U Ln) 165 ov st.out, [(9, .one 9 fun v => .row (α := U Ln) 165 v (st.out ++ [u]))]⟩, ⟨_, []⟩, ⟨_, []⟩, ⟨.emp, [(8, .one 8 fun v => .row (α := U Ln) 165 v [u])]⟩] h rfl (by kernel_rfl)
     ⟨oA obA, oA obA, oA obA, (by rw [← hv]; exact oA fun _ => aZ (bF mi rfl rfl rfl)), oA obA, oA obA, oA fun _ => g7 (gg Tryz.call216 rfl cs), (by rw [← hu]; exact oA fun _ => aZ (bF vb rfl rfl rfl)), fun _ _ => oF 4 u mq rfl rfl, fun _ _ => wV (j := 8) 1 4 mq rfl rfl (by omega) rfl (fun v => by simp only [dh, bo] <;> rfl), fun _ _ => sM (j := 9) (by decide) rfl, trivial⟩ ?_
    clear h ac wo; intro ξ ac wo hφ h
    replace h : St w0 133 [(3, ξ 10)] [.row (α := U Ln) 165 (ξ 9) (st.out ++ [u])] ac wo := (h.pick [1] (by decide)).sub ⟨rfl, trivial⟩
    rw [show ξ 10 = ξ 9 from hφ 10, ← e] at h
    generalize ξ 9 = s2 at h; clear hφ ξ
    exact ⟨rfl, s2, h⟩
   ·
    have e : trU c s = st.out := by rw [hU]; unfold tsE; rw [hc1]; rfl
    rw [← e] at h
    refine gz h <| (W) ?_; clear h ac wo; intro ac wo h
    exact ⟨rfl, ov, h.re [0]⟩
  ·
   clear h ac wo; rintro ac wo ⟨ov2, h⟩
   refine gz h <| (W) ?_; clear h ac wo; intro ac wo h
   refine u6 (xs := fz c s) h (dl Tryz.call108 rfl) (fun w_ hB_ hS_ => mm (trU c s) ov2 (by omega) zU w_ (row_view hS_ 0 rfl)) rfl ?_; clear h ac wo; intro s2 ac wo _ h
   refine gz h <| (W) ?_; clear h ac wo; intro ac wo h
   exact (rt h) (h.retR 0 rfl trivial)
end
end Go.Sx
namespace Go.Sx
open Go Go.RowKit Go.Proofs
set_option maxRecDepth 100000
set_option maxHeartbeats 40000000
attribute [local irreducible] Code.wp wpList Rd Step ObS Ent
attribute [local irreducible] ao aK ak ap ax bI ah
attribute [local irreducible] aD aM am az aR aj aX dF iV bR ay
theorem make_0 {n d : GI} (hd : fi d ≠ 0) : (cw n d).2 = 0 := by
  have h : (cq d == 0) = false := by rw [j8]; simp; exact hd
  unfold cw; rw [h]; rfl
theorem oi (n : Nat) (hn : n < 100000) (w0 : World) : Calls Tryz.prog 110 #[.int .i64 (n : Int), .int .i64 4] w0 (RetP w0 (.tuple #[vQ (qa n), .int .i64 0]) (SzQ 35 (qa n))) := by
 refine enter (N := 13) (args := [.int .i64 (n : Int), .int .i64 4]) Tryz.func110 rfl rfl ?_; intro ac h
 have c1 := eR (n : Int) 36 og (by omega)
 have c2 := eR 4 36 og (by omega)
 have c3 := qm (ay (n : Int)) (ay 4) (an (c1 w0)) (an (c2 w0))
 have e0 : (cw (ay (n : Int)) (ay 4)).2 = 0 := make_0 (by rw [fS]; decide)
 rw [e0] at c3
 refine gz h <| (xa) fun b1 => (xk c1) <| (xk c2) <| (xk c3) <| (W) ?_; clear h ac; intro ac wo h
 exact sf 0 h (h.retP (u := .tuple #[vQ (qa n), .int .i64 0]) rfl (an (c3 w0)))
def cCt (p q : Nat) : List Value := [.int .u8 (p : Int), .int .u8 (q : Int)]
def vCt (p q : Nat) : Value := .agg (cCt p q).toArray
instance yD1_23 (p q : Nat) : Cel (vCt p q) (cCt p q) := ⟨rfl⟩
instance yD1_24 (p q : Nat) : Dc (cCt p q) (vCt p q) := ⟨rfl⟩
instance yD1_25 : Sz Tryz.prog 25 2 := ⟨Tryz.sizeOf25⟩
instance yD1_26 : Ag Tryz.prog 25 true := ⟨Tryz.isAgg25⟩
instance yD1_27 : Un Tryz.prog 25 (.array 2 5) := ⟨Tryz.runUnderlying25⟩
section
variable [K : Key] [KeyZ] [KeyB]
omit [KeyZ] [KeyB] in
theorem gap_cmp (p q : Nat) [G : KeyG p q] : decide (aI (aw ⟨ah (qa p), ah (qa (p + q)), false, false⟩) (aB ⟨ah (qa p), ah (qa (p + q)), false, false⟩) ≥ 0) = false := by
 have := vcheck (i := ⟨ah (qa p), ah (qa (p + q)), false, false⟩) ⟨⟨G.a, G.b⟩, by
   show tk (ah (qa p)) ≤ tk (ah (qa (p + q)))
   have h := G.a.cmp G.b
   have h2 := qa_le p q
   rw [h] at h2
   unfold sgn at h2
   split at h2
   · omega
   · split at h2
     · omega
     · omega, fun _ => ⟨rfl, rfl⟩⟩
 unfold fL at this
 rw [nk G.a, nk G.b] at this
 cases h : decide (aI (aw ⟨ah (qa p), ah (qa (p + q)), false, false⟩) (aB ⟨ah (qa p), ah (qa (p + q)), false, false⟩) ≥ 0) with
 | false => rfl
 | true => rw [h] at this; cases this
theorem w6 (c : Crq) (s : List Stq) (sv : Value) (p q : Nat) [G : KeyG p q] (hp : p < 256) (hq : q < 256) (hc : c.time < 256 ∧ c.x < 256 ∧ c.y < 256) (hs : ∀ i, B4 (gt s i)) (hl : s.length ≤ 6) (w0 : World) (hsv : View w0 sv s) : Calls Tryz.prog 19 #[vCr c sv, vCt p q] w0 (RetR w0 165 (vi c s p q) True) := by
 refine enter (N := 75) (args := [vCr c sv, vCt p q]) Tryz.func19 rfl rfl ?_; intro ac h
 haveI : On := ⟨trivial⟩
 obtain ⟨_, hN, hn⟩ := sn c s
 obtain ⟨l, hle⟩ : ∃ l, fz c s = l := ⟨_, rfl⟩
 rw [hle] at hN hn
 refine gz h <| (xb) fun b2 => (xb) fun b3 => (W) ?_; clear h ac; intro ac wo h
 refine ip (xs := l) h (dl Tryz.call109 rfl) (fun w_ hB_ hS_ => by rw [← hle]; exact qK c s sv hc hs hl w_ (hsv.below hB_)) rfl ?_; clear h ac wo; intro lv ac wo _ h
 refine gz h <| (xo (hs := by exact rmN 3 rfl rfl rfl)) <| (ai) ?_ ?_ <;> clear h ac wo <;> intro ac wo h hc1
 ·
  have e : vi c s p q = l := by unfold vi; rw [decide_eq_true (by have := eq_of_beq hc1; omega), hle]; rfl
  rw [e]
  refine gz h <| (W) ?_; clear h ac wo; intro ac wo h
  exact (rt h) (h.retR 0 rfl trivial)
 have hp3 : p % 3 ≠ 0 := by have := ne_of_beq_false hc1; omega
 have e : vi c s p q = gI l (dA (mf l) [ot p q]) := by unfold vi; rw [decide_eq_false hp3, hle]; rfl
 rw [e]
 have ca := oi p (by omega)
 have cb := oi (p + q) (by omega)
 have za := an (ca w0)
 have zb := an (cb w0)
 refine gz h <| (xo (hs := by exact cvI hp rfl)) <| (xk ca) <| (xa) fun b6 => (xo (hs := by exact cvI hp rfl)) <| (xo (hs := by exact cvI hq rfl)) <| (xk cb) <| (xa) fun b8 => (W) ?_; clear h ac wo; intro ac wo h
 obtain ⟨gI0, hgI0⟩ : ∃ g : Iv, (⟨ah (qa p), ah (qa (p + q)), false, false⟩ : Iv) = g := ⟨_, rfl⟩
 have cc := xX (qa p) (qa (p + q)) (cX za og) (cX zb og) (gap_cmp p q)
 rw [hgI0] at cc
 refine ip (xs := [gI0]) h (dl Tryz.call111 rfl) (fun w_ hB_ hS_ => cc w_) rfl ?_; clear h ac wo; intro gv0 ac wo _ h
 refine gz h <| (xo (hs := by exact rmN 3 rfl rfl rfl)) <| (W) ?_; clear h ac wo; intro ac wo h
 refine jn (fun a w => ∃ gv1, St w0 75 [(5, lv), (10, gv1)] [.row (α := U Ln) 165 lv l, .row (α := Iv) 74 gv1 [ot p q]] a w) ?_ ?_
 ·
  refine gz h <| (ai) ?_ ?_ <;> clear h ac wo <;> intro ac wo h hc2
  ·
   have h1 : decide (p % 3 = 1) = true := by
    rw [Bool.and_eq_true] at hc2
    exact decide_eq_true (by have := eq_of_beq hc2.1; omega)
   refine gz h <| (W) ?_; clear h ac wo; intro ac wo h
   replace h : St w0 75 [(3, ptr b3 0), (5, lv), (6, ptr b6 0), (8, ptr b8 0)] [.row (α := U Ln) 165 lv l, .blk b3 (cCt p q) 25, .blk b6 (cQ (qa p)) 29, .blk b8 (cQ (qa (p + q))) 29] ac wo := h.re [3, 4, 2, 1]
   have c1 := bV 1 36 og og
   have c2 := bV 2 36 og og
   have cm := mL (qa p) (ak 1) (ak 2) 10 og (cX za og) (cX (an (c1 w0)) og) (cX (an (c2 w0)) og) trivial (cX (an (c2 w0)) og)
   rw [gX_make] at cm
   replace h := h.emps 1
   refine fq mixed [dw (vQ (qa p)) [2], dv _, dv _, dv (.tuple #[vR (gX p), .int .i64 0]), dv _, dv (vR (gX p)), dv (.int .i64 0), ⟨.nd (.one 7 fun v => ∃ b, v = ptr b 0), [4]⟩, dw undef [4], dv (.int .i64 0)]
    [⟨_, []⟩, ⟨_, []⟩, ⟨_, []⟩, ⟨_, []⟩, ⟨.emp, [(7, .one 7 fun x => .blk (bE x) (cR default) 46), (8, .one 7 fun x => .blk (bE x) (cR (gX p)) 46)]⟩] h rfl (by kernel_rfl)
    ⟨oA obA, oA fun _ => g7 (gg Tryz.call101 rfl c1), oA fun _ => g7 (gg Tryz.call101 rfl c2), oA fun _ => g7 (gg Tryz.call112 rfl cm), oA obA, oA obA, oA obA, fun _ _ => kX 4 rfl (fun _ => rfl), fun ξ hφ => kW (u := vR (gX p)) 4 (hφ 7 rfl) rfl rfl rfl rfl rfl rfl rfl, oA obA, trivial⟩ ?_
   clear h ac wo; intro ξ ac wo hφ h
   obtain ⟨b11, hb11⟩ : ∃ b, ξ 7 = ptr b 0 := hφ 7
   replace h : St w0 75 [(3, ptr b3 0), (5, lv), (6, ptr b6 0), (8, ptr b8 0), (11, ξ 7)] [.row (α := U Ln) 165 lv l, .blk b3 (cCt p q) 25, .blk b6 (cQ (qa p)) 29, .blk b8 (cQ (qa (p + q))) 29, .blk (bE (ξ 7)) (cR (gX p)) 46] ac wo := (h.pick [0, 1, 2, 3, 4] (by decide)).sub ⟨rfl, rfl, rfl, rfl, rfl, trivial⟩
   rw [hb11] at h
   clear hb11 hφ ξ
   refine gz h <| (W) ?_; clear h ac wo; intro ac wo h
   replace h := h.emps 1
   have cf := cO (qa p) 35 og za
   have cg := cO (qa (p + q)) 35 og zb
   have cx := sD (gX p) (ah (qa (p + q))) (pM G.x) (pM G.b)
   obtain ⟨v, hv⟩ : ∃ v : Iv, (⟨ah (qa p), uS (gX p) (ah (qa (p + q))), (((q % 2 : Nat) : Int) == 1), false⟩ : Iv) = v := ⟨_, rfl⟩
   have ev : v = ot p q := by
    rw [← hv]; unfold ot; rw [h1, cond_true, show (((q % 2 : Nat) : Int) == 1) = decide (q % 2 = 1) by rw [Bool.eq_iff_iff, beq_iff_eq, decide_eq_true_eq]; omega]
   refine fq mixed [dw (vQ (qa p)) [2], dv (vR (ah (qa p))), dw (vR (gX p)) [4], dw (vQ (qa (p + q))) [3], dv (vR (ah (qa (p + q)))), dv (vR (uS (gX p) (ah (qa (p + q))))), dv _, dw (.int .u8 (q : Int)) [1], dv (.int .u8 ((q % 2 : Nat) : Int)), dv (.bool (((q % 2 : Nat) : Int) == 1)), dv (vV v), ⟨.nd (.one 11 fun v => NN v 1), [5]⟩, ⟨.nd (.two 12 11 fun a b => a = b), []⟩]
    [⟨_, []⟩, ⟨_, []⟩, ⟨_, []⟩, ⟨_, []⟩, ⟨_, []⟩, ⟨.emp, [(11, .one 11 fun x => .row (α := Iv) 74 x [v])]⟩] h rfl (by kernel_rfl)
    ⟨oA obA, oA fun _ => g7 (gg cc26 rfl cf), oA obA, oA obA, oA fun _ => g7 (gg cc26 rfl cg), oA fun _ => g7 (gg Tryz.call113 rfl cx), oA obA, oA obA, oA fun _ => aZ (rmN 2 rfl rfl rfl), oA obA, (by rw [← hv]; exact oA fun _ => aZ (bF mi rfl rfl rfl)), fun _ _ => oF 5 v k8 rfl rfl, fun _ _ => sM (j := 11) (by decide) rfl, trivial⟩ ?_
   clear h ac wo; intro ξ ac wo hφ h
   replace h : St w0 75 [(5, lv), (10, ξ 12)] [.row (α := U Ln) 165 lv l, .row (α := Iv) 74 (ξ 11) [v]] ac wo := (h.pick [0, 5] (by decide)).sub ⟨rfl, rfl, trivial⟩
   rw [show ξ 12 = ξ 11 from hφ 12, ev] at h
   exact ⟨rfl, _, h⟩
  ·
   have h1 : decide (p % 3 = 1) = false := by
    cases hd : decide (p % 3 = 1) with
    | false => rfl
    | true =>
     have := of_decide_eq_true hd
     rw [show (((p % 3 : Nat) : Int) == 1) = true by rw [beq_iff_eq]; omega] at hc2
     cases hc2
   have e3 : gI0 = ot p q := by rw [← hgI0]; unfold ot; rw [h1]; rfl
   rw [e3] at h
   refine gz h <| (W) ?_; clear h ac wo; intro ac wo h
   exact ⟨rfl, gv0, h.re [3, 0]⟩
 ·
  clear h ac wo; rintro ac wo ⟨gv1, h⟩
  have hgw : Wv (ot p q) := xx
  have hd := rP hN.nf.wv
  refine gz h <| (W) ?_; clear h ac wo; intro ac wo h
  have p1 := (RetR.pr (si l lv (by omega) hN.nf.wv wo (row_view h.sep 0 rfl))).2
  refine ip (xs := mf l) h (dl Tryz.call29 rfl) (fun w_ hB_ hS_ => si l lv (by omega) hN.nf.wv w_ (row_view hS_ 0 rfl)) rfl ?_; clear h ac wo; intro dv1 ac wo _ h
  refine gz h <| (W) ?_; clear h ac wo; intro ac wo h
  have p2 := (RetR.pr (kv (mf l) dv1 [ot p q] gv1 (by omega) (by show 1 ≤ 200; decide) hd.1.wv (jm hgw) (wvs hd.1.wv) (wvs (jm hgw)) wo (row_view h.sep 0 rfl) (row_view h.sep 2 rfl))).2
  refine ip (xs := dA (mf l) [ot p q]) h (dl Tryz.call115 rfl) (fun w_ hB_ hS_ => kv (mf l) dv1 [ot p q] gv1 (by omega) (by show 1 ≤ 200; decide) hd.1.wv (jm hgw) (wvs hd.1.wv) (wvs (jm hgw)) w_ (row_view hS_ 0 rfl) (row_view hS_ 2 rfl)) rfl ?_; clear h ac wo; intro dv2 ac wo _ h
  have hcm := (lW hd.1.wv (jm hgw)).1
  obtain ⟨r1, _⟩ := pV hN.nf hN.ok hcm.wv
  have r2 := wn (g := ot p q) hN.nf.wv hgw
  have zr : All (jh 30) (rsI l (dA (mf l) [ot p q])) := fun x hx => sr (r1 x hx).1 ((r1 x hx).2.bl (by decide)) (by decide)
  have p2' : (dA (mf l) [ot p q]).length ≤ 200 := by simp only [List.length_singleton] at p2; omega
  refine gz h <| (W) ?_; clear h ac wo; intro ac wo h
  refine ip (xs := gI l (dA (mf l) [ot p q])) h (dl Tryz.call114 rfl) (fun w_ hB_ hS_ => qQ l lv (dA (mf l) [ot p q]) dv2 (by omega) p2' hN.nf.wv hcm.wv (by omega) zr w_ (row_view hS_ 2 rfl) (row_view hS_ 0 rfl)) rfl ?_; clear h ac wo; intro rv ac wo _ h
  refine gz h <| (W) ?_; clear h ac wo; intro ac wo h
  exact (rt h) (h.retR 0 rfl trivial)
end
end Go.Sx
