/- Part of piecesMaps. -/
import Derived.LoopN
import Derived.Test.YtbenbmdkhcfcfaaGreatDoorI1
import Derived.Test.YtbenbmdkhcfcfaaGreatDoorP1
import Derived.Test.YtbenbmdkhcfcfaaGreatDoorM3
import Derived.Test.YtbenbmdkhcfcfaaGreatDoorN1
set_option linter.unusedVariables false
set_option linter.unusedSimpArgs false
open Go.Proofs.Tryz renaming prog → zP, runUnderlying59 → uu59, isAgg53 → aa53, sizeOf53 → zz53, runUnderlying50 → uu50, sizeOf126 → zz126, runUnderlying126 → uu126, sizeOf86 → zz86, isAgg86 → aa86, runUnderlying3 → uu3, runUnderlying276 → uu276, isAgg71 → aa71, sizeOf71 → zz71, runUnderlying57 → uu57, sizeOf176 → zz176, runUnderlying176 → uu176, runUnderlying86 → uu86, sizeOf4 → zz4, isAgg4 → aa4, sizeOf3 → zz3, isAgg176 → aa176, zeroValue176 → vv176
namespace Go.Sx
open Go Go.RowKit Go.Proofs
set_option maxRecDepth 100000
set_option maxHeartbeats 40000000
attribute [local irreducible] Code.wp wpList Rd iq ObS Ent
attribute [local irreducible] ar bS ao aR aG cX
theorem slt179 : SlT zP 179 182 44 504 (zc [2,2,2,2,1,2,2,2,2,1,1,1,2,2,2,2,2,2,2,2,2,2,2,2]) := ⟨Tryz.underlying179, Tryz.t182, _, Tryz.type182, rfl, rfl, rfl, rfl, rfl, by decide, by decide⟩
theorem sj (w : World) : (method (Tryz.prog.types.size + Made.depth) 59 (.agg #[]) "Check").run zP w = .ok (371, .agg #[]) w := k8 (P := zP) (T := 59) Tryz.type59 (by kernel_rfl) uu59 w
instance zi907 : Mt zP 59 (.agg #[]) "Check" 371 := ⟨sj⟩
theorem rc (w : World) : (nilAhead (Tryz.prog.types.size + Made.depth) 59 (.agg #[]) "Check").run zP w = .ok (some false) w := ju (P := zP) (T := 59) (f := 371) Tryz.type59 (by kernel_rfl) uu59 w
instance zi908 : Nl zP 59 (.agg #[]) "Check" := ⟨rc⟩
def cd (p : Qd) (q : Qd) : Qd :=
 (⟨(aV p.c0 q.c0), (aV p.c1 q.c1), (aV p.c2 q.c2)⟩ : Qd)
theorem o7 (p : Qd) (q : Qd) (zp : SzD 10 p) (zq : SzD 10 q) (w0 : World) : Calls zP 32 #[(vD p), (vD q)] w0 (RetP w0 (vD (cd p q)) (SzD 6 (cd p q))) := by
 refine enter (N := 21) Tryz.func32 rfl rfl ?_; intro ac h
 refine gz h <| (xb) fun b1 => (xb) fun b2 => (xa) fun b3 => (W) ?_; clear h; intro _ _ h
 have c1 := bU p.c0 q.c0 7 og zp.1 zq.1
 have s1 := aA (c1 w0)
 have s2 := aA ((bU p.c1 q.c1 7 og zp.2.1 zq.2.1) w0)
 have s3 := aA ((bU p.c2 q.c2 7 og zp.2.2 zq.2.2) w0)
 refine gz h <| (dr1 (H := [⟨.blk b3 (cD oD) 53, [(16, .con (.blk b3 (cD (⟨(aV p.c0 q.c0), (aV p.c1 q.c1), (aV p.c2 q.c2)⟩ : Qd)) 53))]⟩, ⟨.blk b2 (cD q) 53, []⟩, ⟨.blk b1 (cD p) 53, []⟩]) (hob := (oK (c1)) <| (oK (bU p.c1 q.c1 7 og zp.2.1 zq.2.1)) <| (oK (bU p.c2 q.c2 7 og zp.2.2 zq.2.2)) <| (oX (h := by exact fun _ => a6 (bM tG exs rfl (v := (vD (⟨(aV p.c0 q.c0), (aV p.c1 q.c1), (aV p.c2 q.c2)⟩ : Qd))) rfl))) <| oE)) <| (W) ?_; clear h; intro _ _ h
 exact ret h rfl (.cell (v := (vD (⟨(aV p.c0 q.c0), (aV p.c1 q.c1), (aV p.c2 q.c2)⟩ : Qd))) rfl (i := 0) rfl aa53 zz53 rfl rfl rfl .nil) rfl (h.retP (by unfold cd; rfl) (by unfold cd; exact ⟨(fu s1 og), (fu s2 og), (fu s3 og)⟩))
attribute [irreducible] cd
def j7 (a : List (U Qd)) (b : List (U Qd)) (out : List (Bt Qd Qd)) (i : Nat) (k1 : Nat) : (List (Bt Qd Qd)) :=
 out
def iE (a : List (U Qd)) (b : List (U Qd)) (out : List (Bt Qd Qd)) (i : Nat) (k1 : Nat) : Nx ((List (Bt Qd Qd)) × Nat × Nat) (List (Bt Qd Qd)) :=
 bif ((decide ((i : Int) < (a.length : Int))) && (decide ((k1 : Int) < (b.length : Int)))) then
  bif (bc ((gt a i).iv) ((gt b k1).iv)).2 then
   bif (ec ((gt a i).iv) ((gt b k1).iv)) then
    .go ((out ++ [(⟨(bc ((gt a i).iv) ((gt b k1).iv)).1, (gt a i).f, (gt b k1).f⟩ : Bt Qd Qd)]), (i + 1), k1)
   else
    .go ((out ++ [(⟨(bc ((gt a i).iv) ((gt b k1).iv)).1, (gt a i).f, (gt b k1).f⟩ : Bt Qd Qd)]), i, (k1 + 1))
  else
   bif (ec ((gt a i).iv) ((gt b k1).iv)) then
    .go (out, (i + 1), k1)
   else
    .go (out, i, (k1 + 1))
 else
  .out (out, i, k1)
def au (a : List (U Qd)) (b : List (U Qd)) : (List (Bt Qd Qd)) :=
 fin (bo (fun s => iE a b s.1 s.2.1 s.2.2) ((a.length - 0) + (b.length - 0) + 1) ([], 0, 0)) (fun s => j7 a b s.1 s.2.1 s.2.2) (fun r => r)
theorem j6 (a : List (U Qd)) (av : Value) (b : List (U Qd)) (bv : Value) (hla : a.length ≤ 100) (hlb : b.length ≤ 100) (za : All (gM 30) a) (zb : All (gM 30) b) (w0 : World) (hav : View w0 av a) (hbv : View w0 bv b) : Calls zP 116 #[av, bv] w0 (RetR w0 182 (au a b) (All (SzBD 10) (au a b) ∧ (au a b).length ≤ a.length + b.length)) := by
 refine enter (N := 66) Tryz.func116 rfl rfl ?_; intro ac h
 have hlena := hav.len
 have hlenb := hbv.len
 refine gz h <| (W) ?_; clear h ac; intro ac wo h
 replace h := h.nilRow (α := Bt Qd Qd) 182
 obtain ⟨X1, hX1⟩ : ∃ X, bo (fun s => iE a b s.1 s.2.1 s.2.2) ((a.length - 0) + (b.length - 0) + 1) ([], 0, 0) = X := ⟨_, rfl⟩
 refine wp_loop_ghost (fun n_ a_ w_ => ∃ (out : List (Bt Qd Qd)) (i : Nat) (k1 : Nat) (outv : Value), ((a.length - i) + (b.length - k1) < n_) ∧ (bo (fun s => iE a b s.1 s.2.1 s.2.2) n_ (out, i, k1) = X1) ∧ (k1 ≤ b.length) ∧ (i ≤ a.length) ∧ (All (SzBD 10) out) ∧ (out.length ≤ i + k1) ∧ St w0 66 [(0, av), (1, bv), (5, outv), (6, (iN i)), (7, (iN k1))] [.row (α := Bt Qd Qd) 182 outv out] a_ w_) ((a.length - 0) + (b.length - 0) + 1) ⟨[], 0, 0, (.slice none 0 0), og, hX1, og, og, All.nil, og, h.rs⟩ ?_
 clear h ac wo; rintro n1 ac wo ⟨out, i, k1, outv, hm1, hL1, hk1, hi, zout, hol, h⟩
 obtain ⟨m1, rfl⟩ : ∃ m, n1 = m + 1 := ⟨n1 - 1, by omega⟩
 refine gz h <| (ai) ?_ ?_ <;> clear h ac wo <;> intro ac wo h hc1
 ·
  have q := hc1; try simp at q
  refine gz h <| (W) ?_; clear h ac wo; intro ac wo h
  have s2 := aA ((nc ((gt a i).iv) ((gt b k1).iv) 10 og (All.gt za (bK _)).1 (All.gt zb (bK _)).1) w0)
  replace h := h.emps 1
  refine gm mixed [dv _, dv _, dv _, dv _, dv _, dv _, dv _, dv _, dv _, dv _, dv _, dv _, dv _, dv _, ⟨.nd (.one 14 fun v => ∃ b, v = ptr b 0), [1]⟩, ⟨.det undef, [1]⟩, dv _] [⟨_, []⟩, ⟨.emp, [(14, .one 14 fun v => .blk (cC v) (cV (⟨(⟨oQ, oQ, false⟩ : GR), (⟨oQ, oQ, false⟩ : GR), false, false⟩ : Iv)) 86), (15, .one 14 fun v => .blk (cC v) (cV ((bc ((gt a i).iv) ((gt b k1).iv)).1)) 86)]⟩] h rfl (by kernel_rfl) ⟨fun _ _ => om rfl, fun _ _ => om rfl, fun _ _ => a6 (gG (i := i) uu50 zz126 rfl rfl (hav.nn (i := i) og) og), fun _ _ => a6 (fs uu126 rfl zz86 rfl (hav.nn (i := 0) og) rfl rfl (k' := i * 32 + 0)), fun _ _ => a6 (iU (k := 0) aa86 zz86 hav (dM og) rfl rfl rfl rfl (v := (vV ((gt a i).iv))) rfl), fun _ _ => om rfl, fun _ _ => om rfl, fun _ _ => a6 (gG (i := k1) uu50 zz126 rfl rfl (hbv.nn (i := k1) og) og), fun _ _ => a6 (fs uu126 rfl zz86 rfl (hbv.nn (i := 0) og) rfl rfl (k' := k1 * 32 + 0)), fun _ _ => a6 (iU (k := 0) aa86 zz86 hbv (dM og) rfl rfl rfl rfl (v := (vV ((gt b k1).iv))) rfl), fun _ _ => kd (eV (cB Tryz.call179 rfl) (kk (nc ((gt a i).iv) ((gt b k1).iv) 10 og (All.gt za (bK _)).1 (All.gt zb (bK _)).1))), fun _ _ => om rfl, fun _ _ => a6 (cn rfl rfl), fun _ _ => a6 (cn rfl rfl), fun _ _ => ls (ψ := fun v => ∃ b, v = ptr b 0) (B := fun v => [.blk (cC v) (cV (⟨(⟨oQ, oQ, false⟩ : GR), (⟨oQ, oQ, false⟩ : GR), false, false⟩ : Iv)) 86]) [.emp] rfl (fun v _ => by simp only [dJ, bm] <;> rfl) (fun v hv => by simpa [DF.one, bm] using hv) (jo (ic Tryz.zeroValue86 rfl)), (fun ξ hφ => by obtain ⟨b1, hb14⟩ := hφ 14 rfl; exact mR [.blk b1 (cV (⟨(⟨oQ, oQ, false⟩ : GR), (⟨oQ, oQ, false⟩ : GR), false, false⟩ : Iv)) 86] [.blk b1 (cV ((bc ((gt a i).iv) ((gt b k1).iv)).1)) 86] (congrArg (fun v => [Asn.blk (cC v) (cV (⟨(⟨oQ, oQ, false⟩ : GR), (⟨oQ, oQ, false⟩ : GR), false, false⟩ : Iv)) 86]) hb14) (congrArg (fun v => [Asn.blk (cC v) (cV ((bc ((gt a i).iv) ((gt b k1).iv)).1)) 86]) hb14) (qm zz86 (Eq.trans rfl (congrArg some hb14)) rfl rfl rfl rfl rfl rfl)), fun _ _ => a6 (az rfl), trivial⟩ ?_
  clear h ac wo; intro ξ ac wo hφ h
  replace h : St w0 66 [(0, av), (1, bv), (5, outv), (6, (iN i)), (7, (iN k1)), (8, ξ 14), (9, (.bool ((bc ((gt a i).iv) ((gt b k1).iv)).2)))] [.row (α := Bt Qd Qd) 182 outv out, .blk (cC (ξ 14)) (cV ((bc ((gt a i).iv) ((gt b k1).iv)).1)) 86] ac wo := (h.pick [0, 1] DC).sub ⟨rfl, rfl, rfl, rfl, rfl, rfl, rfl, trivial⟩
  revert h
  obtain ⟨b1, hb14⟩ : ∃ b, ξ 14 = ptr b 0 := hφ 14
  rw [hb14]; intro h
  clear hb14
  clear hφ ξ
  refine gz h <| (ai) ?_ ?_ <;> clear h ac wo <;> intro ac wo h hc2
  ·
   have q := hc2; try simp at q
   replace h := h.emps 1
   refine gm mixed [dv _, dw _ [1], dv _, dv _, dv _, dv _, dv _, dv _, dv _, dv _, dv _, dv _, dv _, ⟨.nd (.one 13 fun v => NN v 1), [2]⟩, ⟨.nd (.con True), [0, 2]⟩, ⟨.nd (.two 15 14 fun a b => a = b), []⟩] [⟨.row (α := Bt Qd Qd) 182 outv out, [(14, .one 14 fun v => .row (α := Bt Qd Qd) 182 v (out ++ [(⟨(bc ((gt a i).iv) ((gt b k1).iv)).1, (gt a i).f, (gt b k1).f⟩ : Bt Qd Qd)]))]⟩, ⟨_, []⟩, ⟨.emp, [(13, .one 13 fun v => .row (α := Bt Qd Qd) 182 v ([(⟨(bc ((gt a i).iv) ((gt b k1).iv)).1, (gt a i).f, (gt b k1).f⟩ : Bt Qd Qd)]))]⟩] h rfl (by kernel_rfl) ⟨fun _ _ => om rfl, fun _ _ => iM _ rfl rfl (iB aa86 zz86 rfl rfl rfl (v := (vV ((bc ((gt a i).iv) ((gt b k1).iv)).1))) rfl), fun _ _ => om rfl, fun _ _ => om rfl, fun _ _ => a6 (gG (i := i) uu50 zz126 rfl rfl (hav.nn (i := i) og) og), fun _ _ => a6 (fs uu126 rfl zz53 rfl (hav.nn (i := 0) og) rfl rfl (k' := i * 32 + 20)), fun _ _ => a6 (iU (k := 20) aa53 zz53 hav (dM og) rfl rfl rfl rfl (v := (vD ((gt a i).f))) rfl), fun _ _ => om rfl, fun _ _ => om rfl, fun _ _ => a6 (gG (i := k1) uu50 zz126 rfl rfl (hbv.nn (i := k1) og) og), fun _ _ => a6 (fs uu126 rfl zz53 rfl (hbv.nn (i := 0) og) rfl rfl (k' := k1 * 32 + 20)), fun _ _ => a6 (iU (k := 20) aa53 zz53 hbv (dM og) rfl rfl rfl rfl (v := (vD ((gt b k1).f))) rfl), fun _ _ => a6 (bM bld182 rfl rfl (v := (vBD (⟨(bc ((gt a i).iv) ((gt b k1).iv)).1, (gt a i).f, (gt b k1).f⟩ : Bt Qd Qd))) rfl), fun _ _ => ls (ψ := fun v => NN v 1) (B := fun v => [.row (α := Bt Qd Qd) 182 v ([(⟨(bc ((gt a i).iv) ((gt b k1).iv)).1, (gt a i).f, (gt b k1).f⟩ : Bt Qd Qd)])]) [.emp] rfl (fun v _ => by simp only [dJ, bm] <;> rfl) (fun v hv => by simpa [DF.one, bm] using hv) (jo (cj (α := Bt Qd Qd) (xs := [.tmp 47]) (vs := [(vBD (⟨(bc ((gt a i).iv) ((gt b k1).iv)).1, (gt a i).f, (gt b k1).f⟩ : Bt Qd Qd))]) [(⟨(bc ((gt a i).iv) ((gt b k1).iv)).1, (gt a i).f, (gt b k1).f⟩ : Bt Qd Qd)] slt179 rfl rfl rfl DC)), fun ξ hφ => ls (B := fun v => [.row (α := Bt Qd Qd) 182 v (out ++ [(⟨(bc ((gt a i).iv) ((gt b k1).iv)).1, (gt a i).f, (gt b k1).f⟩ : Bt Qd Qd)]), .row (α := Bt Qd Qd) 182 (ξ 13) ([(⟨(bc ((gt a i).iv) ((gt b k1).iv)).1, (gt a i).f, (gt b k1).f⟩ : Bt Qd Qd)])]) [.row (α := Bt Qd Qd) 182 outv out, .row (α := Bt Qd Qd) 182 (ξ 13) ([(⟨(bc ((gt a i).iv) ((gt b k1).iv)).1, (gt a i).f, (gt b k1).f⟩ : Bt Qd Qd)])] rfl (fun v _ => by simp only [dJ, bm] <;> rfl) (fun _ _ => trivial) (er (xs := out) (ys := [(⟨(bc ((gt a i).iv) ((gt b k1).iv)).1, (gt a i).f, (gt b k1).f⟩ : Bt Qd Qd)]) slt179 (fun w hs => (row_view hs 0 rfl)) rfl rfl og), fun ξ hφ => ob_n (φ := .two 15 14 fun a b => a = b) (v := ξ 14) [] rfl rfl (by show upd ξ 15 (ξ 14) 15 = upd ξ 15 (ξ 14) 14; rw [bm, kv DC]) (az rfl), trivial⟩ ?_
   clear h ac wo; intro ξ ac wo hφ h
   replace h : St w0 66 [(0, av), (1, bv), (5, ξ 15), (6, (iN i)), (7, (iN k1))] [.row (α := Bt Qd Qd) 182 (ξ 14) (out ++ [(⟨(bc ((gt a i).iv) ((gt b k1).iv)).1, (gt a i).f, (gt b k1).f⟩ : Bt Qd Qd)]), .blk b1 (cV ((bc ((gt a i).iv) ((gt b k1).iv)).1)) 86] ac wo := (h.pick [0, 1] DC).sub ⟨rfl, rfl, rfl, rfl, rfl, trivial⟩
   rw [show ξ 15 = ξ 14 from hφ 15] at h
   generalize hsv14 : ξ 14 = sv3 at h; clear hsv14
   clear hφ ξ
   refine gz h <| (dr0 (hob := (oK (kD ((gt a i).iv) ((gt b k1).iv) 10 og (All.gt za (bK _)).1 (All.gt zb (bK _)).1)) <| oE)) <| (ai) ?_ ?_ <;> clear h ac wo <;> intro ac wo h hc3
   ·
    have q := hc3; try simp at q
    have hg := bq hL1 pt
    exact (nx h) fun _ _ h => by exact ⟨m1, og, _, _, _, _, og, hg, og, og, (All.app zout (All.cons ⟨s2, (dh (All.gt za (bK _)).2 og), (dh (All.gt zb (bK _)).2 og)⟩ All.nil)), og, h.re [0]⟩
   ·
    have q := hc3; try simp at q
    have hg := bq hL1 pt
    exact (nx h) fun _ _ h => by exact ⟨m1, og, _, _, _, _, og, hg, og, og, (All.app zout (All.cons ⟨s2, (dh (All.gt za (bK _)).2 og), (dh (All.gt zb (bK _)).2 og)⟩ All.nil)), og, h.re [0]⟩
  ·
   have q := hc2; try simp at q
   refine gz h <| (dr0 (hob := (oK (kD ((gt a i).iv) ((gt b k1).iv) 10 og (All.gt za (bK _)).1 (All.gt zb (bK _)).1)) <| oE)) <| (ai) ?_ ?_ <;> clear h ac wo <;> intro ac wo h hc4
   ·
    have q := hc4; try simp at q
    have hg := bq hL1 pt
    exact (nx h) fun _ _ h => by exact ⟨m1, og, _, _, _, _, og, hg, og, og, zout, og, h.re [0]⟩
   ·
    have q := hc4; try simp at q
    have hg := bq hL1 pt
    exact (nx h) fun _ _ h => by exact ⟨m1, og, _, _, _, _, og, hg, og, og, zout, og, h.re [0]⟩
 ·
  have q := hc1; try simp at q
  have hx1 := ck hL1 pt
  have hd : au a b = out := pt
  exact (rx h) fun _ _ h => (by rw [hd]; exact h.retR 0 rfl ⟨zout, og⟩)
attribute [irreducible] au
def bC (f : Qd) : Int :=
 (aR f.c1)
theorem ku (f : Qd) (zf : SzD 30 f) (w0 : World) : Calls zP 29 #[(vD f)] w0 (RetP w0 (.int .i64 (bC f)) (True)) := by
 refine enter (N := 6) Tryz.func29 rfl rfl ?_; intro ac h
 have p2 := aA ((cG f.c1) w0)
 refine gz h <| (xb) fun b1 => (xk (cG f.c1)) <| (W) ?_; clear h; intro _ _ h
 exact (rt h) (h.retP (by unfold bC; rfl) trivial)
attribute [irreducible] bC
def ej (l : List (U Int)) : (List (U Int)) :=
 (bX l).1
theorem kf (l : List (U Int)) (lv : Value) (hl : l.length < 20) (zl : All (mh 30) l) (w0 : World) (hlv : View w0 lv l) : Calls zP 114 #[(.iface 59 (.agg #[])), lv] w0 (RetR w0 176 (ej l) (All (mh 30) (ej l) ∧ (ej l).length ≤ 3 * l.length)) := by
 refine enter (N := 14) Tryz.func114 rfl rfl ?_; intro ac h
 have hlenl := hlv.len
 refine gz h <| (W) ?_; clear h; intro _ _ h
 have s1 := RetT.pr ((fun w_ hB_ hS_ => gI l lv og zl w_ (hlv.below hB_)) _ h.bel h.sep)
 have p2 := s1.2
 refine xG (xs := (bX l).1) h (cB Tryz.call119 rfl) (fun w_ hB_ hS_ => gI l lv og zl w_ (hlv.below hB_)) rfl ?_; clear h; intro sv3 _ _ _ h
 exact (rx h) fun _ _ h => (by unfold ej; exact h.retR 0 rfl ⟨s1.1, og⟩)
attribute [irreducible] ej
def jN (l : List (U Qd)) (out : List (U Int)) (x11 : Nat) : (List (U Int)) :=
 (ej out)
def eM (l : List (U Qd)) (out : List (U Int)) (x11 : Nat) : Nx ((List (U Int)) × Nat) (List (U Int)) :=
 bif (decide ((x11 : Int) < (l.length : Int))) then
  .go ((out ++ [(⟨(gt l x11).iv, (bC ((gt l x11).f))⟩ : U Int)]), (x11 + 1))
 else
  .out (out, x11)
def cf (l : List (U Qd)) : (List (U Int)) :=
 fin (bo (fun s => eM l s.1 s.2) ((l.length - 0) + 1) ([], 0)) (fun s => jN l s.1 s.2) (fun r => r)
theorem lH (l : List (U Qd)) (lv : Value) (hl : l.length < 20) (zl : All (gM 30) l) (w0 : World) (hlv : View w0 lv l) : Calls zP 28 #[(.iface 59 (.agg #[])), lv, (.func (.func 29) #[] #[])] w0 (RetR w0 176 (cf l) (All (mh 30) (cf l) ∧ (cf l).length ≤ 60)) := by
 refine enter (N := 34) Tryz.func28 rfl rfl ?_; intro ac h
 have hlenl := hlv.len
 refine gz h <| (W) ?_; clear h ac; intro ac wo h
 replace h := h.nilRow (α := U Int) 176
 obtain ⟨X1, hX1⟩ : ∃ X, bo (fun s => eM l s.1 s.2) ((l.length - 0) + 1) ([], 0) = X := ⟨_, rfl⟩
 refine wp_loop_ghost (fun n_ a_ w_ => ∃ (out : List (U Int)) (x11 : Nat) (outv : Value), ((l.length - x11) < n_) ∧ (bo (fun s => eM l s.1 s.2) n_ (out, x11) = X1) ∧ (x11 ≤ l.length) ∧ (All (mh 30) out) ∧ (out.length = x11) ∧ St w0 34 [(0, (.iface 59 (.agg #[]))), (1, lv), (2, (.func (.func 29) #[] #[])), (7, outv), (10, (iN l.length)), (11, (iN x11))] [.row (α := U Int) 176 outv out] a_ w_) ((l.length - 0) + 1) ⟨[], 0, (.slice none 0 0), og, hX1, og, All.nil, og, h.rs⟩ ?_
 clear h ac wo; rintro n1 ac wo ⟨out, x11, outv, hm1, hL1, hx11, zout, hol, h⟩
 obtain ⟨m1, rfl⟩ : ∃ m, n1 = m + 1 := ⟨n1 - 1, by omega⟩
 refine gz h <| (ai) ?_ ?_ <;> clear h ac wo <;> intro ac wo h hc1
 ·
  have hd1 := of_decide_eq_true hc1
  refine gz h <| (W) ?_; clear h ac wo; intro ac wo h
  replace h := h.emps 1
  refine gm mixed [dv _, dv _, dv _, dv _, dv _, dv _, dv _, dv _, dv _, dv _, dv _, dv _, dv _, dv _, ⟨.nd (.one 14 fun v => NN v 1), [1]⟩, ⟨.nd (.con True), [0, 1]⟩, ⟨.nd (.two 16 15 fun a b => a = b), []⟩] [⟨.row (α := U Int) 176 outv out, [(15, .one 15 fun v => .row (α := U Int) 176 v (out ++ [(⟨(gt l x11).iv, (bC ((gt l x11).f))⟩ : U Int)]))]⟩, ⟨.emp, [(14, .one 14 fun v => .row (α := U Int) 176 v ([(⟨(gt l x11).iv, (bC ((gt l x11).f))⟩ : U Int)]))]⟩] h rfl (by kernel_rfl) ⟨fun _ _ => om rfl, fun _ _ => om rfl, fun _ _ => om rfl, fun _ _ => a6 (gG (i := x11) uu50 zz126 rfl rfl (hlv.nn (i := x11) og) og), fun _ _ => a6 (fs uu126 rfl zz86 rfl (hlv.nn (i := 0) og) rfl rfl (k' := x11 * 32 + 0)), fun _ _ => a6 (iU (k := 0) aa86 zz86 hlv (dM og) rfl rfl rfl rfl (v := (vV ((gt l x11).iv))) rfl), fun _ _ => om rfl, fun _ _ => om rfl, fun _ _ => om rfl, fun _ _ => a6 (gG (i := x11) uu50 zz126 rfl rfl (hlv.nn (i := x11) og) og), fun _ _ => a6 (fs uu126 rfl zz53 rfl (hlv.nn (i := 0) og) rfl rfl (k' := x11 * 32 + 20)), fun _ _ => a6 (iU (k := 20) aa53 zz53 hlv (dM og) rfl rfl rfl rfl (v := (vD ((gt l x11).f))) rfl), fun _ _ => kd (eV (nA (cap := []) Tryz.call29 rfl rfl) (kk (ku ((gt l x11).f) (All.gt zl (bK _)).2))), fun _ _ => a6 (bM qM rfl rfl (v := (vUI (⟨(gt l x11).iv, (bC ((gt l x11).f))⟩ : U Int))) rfl), fun _ _ => ls (ψ := fun v => NN v 1) (B := fun v => [.row (α := U Int) 176 v ([(⟨(gt l x11).iv, (bC ((gt l x11).f))⟩ : U Int)])]) [.emp] rfl (fun v _ => by simp only [dJ, bm] <;> rfl) (fun v hv => by simpa [DF.one, bm] using hv) (jo (cj (α := U Int) (xs := [.tmp 27]) (vs := [(vUI (⟨(gt l x11).iv, (bC ((gt l x11).f))⟩ : U Int))]) [(⟨(gt l x11).iv, (bC ((gt l x11).f))⟩ : U Int)] jZ rfl rfl rfl DC)), fun ξ hφ => ls (B := fun v => [.row (α := U Int) 176 v (out ++ [(⟨(gt l x11).iv, (bC ((gt l x11).f))⟩ : U Int)]), .row (α := U Int) 176 (ξ 14) ([(⟨(gt l x11).iv, (bC ((gt l x11).f))⟩ : U Int)])]) [.row (α := U Int) 176 outv out, .row (α := U Int) 176 (ξ 14) ([(⟨(gt l x11).iv, (bC ((gt l x11).f))⟩ : U Int)])] rfl (fun v _ => by simp only [dJ, bm] <;> rfl) (fun _ _ => trivial) (er (xs := out) (ys := [(⟨(gt l x11).iv, (bC ((gt l x11).f))⟩ : U Int)]) jZ (fun w hs => (row_view hs 0 rfl)) rfl rfl og), fun ξ hφ => ob_n (φ := .two 16 15 fun a b => a = b) (v := ξ 15) [] rfl rfl (by show upd ξ 16 (ξ 15) 16 = upd ξ 16 (ξ 15) 15; rw [bm, kv DC]) (az rfl), trivial⟩ ?_
  clear h ac wo; intro ξ ac wo hφ h
  replace h : St w0 34 [(0, (.iface 59 (.agg #[]))), (1, lv), (2, (.func (.func 29) #[] #[])), (7, ξ 16), (10, (iN l.length)), (11, (iN x11))] [.row (α := U Int) 176 (ξ 15) (out ++ [(⟨(gt l x11).iv, (bC ((gt l x11).f))⟩ : U Int)])] ac wo := (h.pick [0] DC).sub ⟨rfl, rfl, rfl, rfl, rfl, rfl, trivial⟩
  rw [show ξ 16 = ξ 15 from hφ 16] at h
  generalize hsv15 : ξ 15 = sv2 at h; clear hsv15
  clear hφ ξ
  have hg := bq hL1 pt
  exact (nx h) fun _ _ h => by exact ⟨m1, og, _, _, _, og, hg, og, (All.app zout (All.cons (All.gt zl (bK _)).1 All.nil)), og, h.re [0]⟩
 ·
  have hd1 := of_decide_eq_false hc1
  have hx1 := ck hL1 pt
  refine gz h <| (W) ?_; clear h ac wo; intro ac wo h
  have s3 := RetR.pr ((fun w_ hB_ hS_ => kf out outv og zout w_ (row_view hS_ 0 rfl)) _ h.bel h.sep)
  have p4 := s3.2
  refine lX (xs := (ej out)) h (cB Tryz.call114 rfl) (fun w_ hB_ hS_ => kf out outv og zout w_ (row_view hS_ 0 rfl)) rfl ?_; clear h ac wo; intro sv5 ac wo _ h
  have hd : cf l = (ej out) := pt
  exact (rx h) fun _ _ h => (by rw [hd]; exact h.retR 0 rfl ⟨s3.1, og⟩)
attribute [irreducible] cf
def fG (u : U Int) (t : GR) : Int :=
 (ar u.iv.hi t)
theorem k7 (u : U Int) (t : GR) (zu : mh 30 u) (zt : SzR 30 t) (w0 : World) : Calls zP 126 #[(vUI u), (vR t)] w0 (RetP w0 (.int .i64 (fG u t)) (True)) := by
 refine enter (N := 10) Tryz.func126 rfl rfl ?_; intro ac h
 have p2 := aA ((aO u.iv.hi t 10 og zu.2 zt) w0)
 refine gz h <| (xb) fun b1 => (xb) fun b2 => (xk (aO u.iv.hi t 10 og zu.2 zt)) <| (W) ?_; clear h; intro _ _ h
 exact (rt h) (h.retP (by unfold fG; rfl) trivial)
attribute [irreducible] fG
def fK (x : List (U Int)) (target : GR) (i : Nat) (j : Nat) : Int × Bool :=
 ((i : Int), ((decide ((i : Int) < (x.length : Int))) && ((fG (gt x i) target) == 0)))
def aS (x : List (U Int)) (target : GR) (i : Nat) (j : Nat) : Nx (Nat × Nat) (Int × Bool) :=
 bif (decide ((i : Int) < (j : Int))) then
  bif (decide ((fG (gt x ((i + j) / 2)) target) < 0)) then
   .go ((((i + j) / 2) + 1), j)
  else
   .go (i, ((i + j) / 2))
 else
  .out (i, j)
def aK (x : List (U Int)) (target : GR) : Int × Bool :=
 fin (bo (fun s => aS x target s.1 s.2) (x.length - 0 + 1) (0, x.length)) (fun s => fK x target s.1 s.2) (fun r => r)
theorem dO (x : List (U Int)) (xv : Value) (target : GR) (hl : x.length ≤ 1000) (zx : All (mh 30) x) (ztarget : SzR 30 target) (w0 : World) (hxv : View w0 xv x) : Calls zP 125 #[xv, (vR target), (.func (.func 126) #[] #[])] w0 (RetP w0 (.tuple #[(.int .i64 ((aK x target).1)), (.bool ((aK x target).2))]) ((0 ≤ (aK x target).1 ∧ (aK x target).1 ≤ (x.length : Int)))) := by
 refine enter (N := 49) Tryz.func125 rfl rfl ?_; intro ac h
 have hlenx := hxv.len
 obtain ⟨X1, hX1⟩ : ∃ X, bo (fun s => aS x target s.1 s.2) (x.length - 0 + 1) (0, x.length) = X := ⟨_, rfl⟩
 refine gz h <| (xb) fun b1 => (W) ?_; clear h; intro _ _ h
 refine wp_loop_ghost (fun n_ a_ w_ => ∃ (i : Nat) (j : Nat), (j - i < n_) ∧ (bo (fun s => aS x target s.1 s.2) n_ (i, j) = X1) ∧ (i ≤ j) ∧ (j ≤ x.length) ∧ St w0 49 [(0, xv), (2, (.func (.func 126) #[] #[])), (4, (ptr b1 0)), (8, (iN x.length)), (9, (iN i)), (10, (iN j))] [.blk b1 (cR target) 71] a_ w_) (x.length - 0 + 1) ⟨0, x.length, og, hX1, og, og, h.rs⟩ ?_
 clear h; rintro n1 _ _ ⟨i, j, hm1, hL1, hij, hjn, h⟩
 obtain ⟨m1, rfl⟩ : ∃ m, n1 = m + 1 := ⟨n1 - 1, by omega⟩
 refine gz h <| (ai) ?_ ?_ <;> clear h <;> intro _ _ h hc1
 ·
  have hd1 := of_decide_eq_true hc1
  refine gz h <| (xo (hs := by exact bn uu3 uu276 rfl (r := ((i + j : Nat) : Int)) (by rw [IntKind.wrap_u64]; first | omega | grind))) <| (xo (hs := by exact m6 rfl rfl (r := ((((i + j) / 2 : Nat)) : Int)) og (by first | decide | (simp [IntKind.bits] <;> omega)) (by rw [show ((1 : Int).toNat) = 1 from rfl]; omega))) <| (xo (hs := by exact bn uu276 uu3 rfl (r := ((((i + j) / 2 : Nat)) : Int)) (by rw [IntKind.wrap_i64]; first | omega | grind))) <| (dr0 (hob := (oK (k7 (gt x ((i + j) / 2)) target (All.gt zx (dN _)) ztarget)) <| oE)) <| (ai) ?_ ?_ <;> clear h <;> intro _ _ h hc2
  ·
   have hd2 := of_decide_eq_true hc2
   have hg := bq hL1 pt
   exact (nx h) fun _ _ h => by exact ⟨m1, og, _, _, og, hg, og, og, h.re [0]⟩
  ·
   have hd2 := of_decide_eq_false hc2
   have hg := bq hL1 pt
   exact (nx h) fun _ _ h => by exact ⟨m1, og, _, _, og, hg, og, og, h.re [0]⟩
 ·
  have hd1 := of_decide_eq_false hc1
  have hx1 := ck hL1 pt
  have hd : aK x target = ((i : Int), ((decide ((i : Int) < (x.length : Int))) && ((fG (gt x i) target) == 0))) := pt
  refine gz h <| (dr0 (hob := (oG (by exact fun hg => k7 (gt x i) target (All.gt zx (dN _)) ztarget)) <| oE)) <| (W) ?_; clear h; intro _ _ h
  exact (rt h) (h.retP (by rw [hd] <;> rfl) (by rw [hd]; exact og))
attribute [irreducible] aK
def pa (l : List (U Int)) (t : GR) (i : Nat) : Int × Bool :=
 (0, false)
def fc (l : List (U Int)) (t : GR) (i : Nat) : Nx Nat (Int × Bool) :=
 bif (decide ((i : Int) < (l.length : Int))) then
  bif (decide ((ar (((gt l i).iv).lo) t) > 0)) then
   .out i
  else
   bif (((decide ((ar (((gt l i).iv).lo) t) < 0)) || (!((gt l i).iv).openLo)) && ((!(decide (((gt l i).iv).hi = t))) || (!((gt l i).iv).openHi))) then
    .ret ((gt l i).f, true)
   else
    .go (i + 1)
 else
  .out i
def dL (l : List (U Int)) (t : GR) : Int × Bool :=
 fin (bo (fun s => fc l t s) ((l.length - (((aK l t).1).toNat)) + 1) ((aK l t).1).toNat) (fun s => pa l t s) (fun r => r)
theorem o9 (l : List (U Int)) (lv : Value) (t : GR) (hl : l.length ≤ 1000) (zl : All (mh 30) l) (zt : SzR 30 t) (w0 : World) (hlv : View w0 lv l) : Calls zP 37 #[lv, (vR t)] w0 (RetP w0 (.tuple #[(.int .i64 ((dL l t).1)), (.bool ((dL l t).2))]) (True)) := by
 refine enter (N := 68) Tryz.func37 rfl rfl ?_; intro ac h
 have hlenl := hlv.len
 refine nG fun K1 hK1 => ?_
 refine bx h (cR t) rfl rfl rfl fun b1 => g0 (az rfl) rfl <| g0 (az rfl) rfl <| gn hK1 <| gr fun K2 hK2 => g0 (ay rfl) rfl <| g1 0 rfl (iB aa71 zz71 rfl rfl rfl (v := (vR t)) rfl) rfl ?_; clear h ac; intro ac wo h
 have s1 := Calls.pr ((fun w_ hB_ hS_ => dO l lv t og zl zt w_ (hlv.below hB_)) _ h.bel h.sep)
 have p2 := s1
 refine tz h (cB Tryz.call125 rfl) (fun w_ hB_ hS_ => dO l lv t og zl zt w_ (hlv.below hB_)) rfl <| g0 (ay rfl) rfl <| g0 (Rd.cast (cn rfl rfl) (v := .int .i64 (((aK l t).1).toNat : Int)) (congrArg (Value.int .i64) og)) rfl <| g0 (cn rfl rfl) rfl <| g0 (az rfl) rfl <| g0 (az rfl) rfl <| gn hK2 <| gq fun K3 hK3 => gB ?_; clear h ac wo; intro ac wo h
 obtain ⟨X1, hX1⟩ : ∃ X, bo (fun s => fc l t s) ((l.length - (((aK l t).1).toNat)) + 1) ((aK l t).1).toNat = X := ⟨_, rfl⟩
 refine wp_loop_ghost (fun n_ a_ w_ => ∃ (i : Nat), ((l.length - i) < n_) ∧ (bo (fun s => fc l t s) n_ i = X1) ∧ (i ≤ l.length) ∧ St w0 68 [(0, lv), (3, (ptr b1 0)), (6, (iN i))] [.blk b1 (cR t) 71] a_ w_) ((l.length - (((aK l t).1).toNat)) + 1) ⟨((aK l t).1).toNat, og, hX1, og, h.rs⟩ ?_
 clear h ac wo; rintro n1 ac wo ⟨i, hm1, hL1, hi, h⟩
 obtain ⟨m1, rfl⟩ : ∃ m, n1 = m + 1 := ⟨n1 - 1, by omega⟩
 refine gz h <| gq fun K4 hK4 => gr fun K5 hK5 => g0 (ay rfl) rfl <| g0 (ay rfl) rfl <| g0 (gZ uu57 rfl hlv.sl) rfl <| g0 (jq rfl rfl) rfl <| gn hK5 ?_; clear h ac wo; intro ac wo h
 refine jV h rfl (fun hc1 => ?_) (fun hc1 => ?_)
 ·
  have hd1 := of_decide_eq_true hc1
  refine la ?_
  refine hK4 _ _ ?_
  refine nB fun K6 hK6 => ?_
  refine nC ?_
  refine nB fun K7 hK7 => ?_
  have p4 := aA ((aO (((gt l i).iv).lo) t 10 og (All.gt zl (dN _)).1 zt) w0)
  refine gm mixed [dv _, dv _, dv _, dv _, dv _, dv _, dw _ [0], dv _, dv _] [⟨_, []⟩] h rfl (by kernel_rfl) ⟨fun _ _ => om rfl, fun _ _ => om rfl, fun _ _ => a6 (gG (i := i) uu57 zz176 rfl rfl (hlv.nn (i := i) og) og), fun _ _ => a6 (fs uu176 rfl zz86 rfl (hlv.nn (i := 0) og) rfl rfl (k' := i * 21 + 0)), fun _ _ => a6 (fs uu86 rfl zz71 rfl (hlv.nn (i := 0) og) rfl (by first | rfl | (simp only [Nat.add_assoc] <;> rfl)) (k' := i * 21 + 0)), fun _ _ => a6 (iU (k := 0) aa71 zz71 hlv (dM og) rfl rfl rfl rfl (v := (vR (((gt l i).iv).lo))) rfl), fun _ _ => iM _ rfl rfl (iB aa71 zz71 rfl rfl rfl (v := (vR t)) rfl), fun _ _ => kd (eV (cB Tryz.call127 rfl) (kk (aO (((gt l i).iv).lo) t 10 og (All.gt zl (dN _)).1 zt))), fun _ _ => a6 (az rfl), trivial⟩ ?_
  clear h ac wo; intro ξ ac wo hφ h
  replace h : St w0 68 [(0, lv), (3, (ptr b1 0)), (6, (iN i)), (8, (.int .i64 (ar (((gt l i).iv).lo) t)))] [.blk b1 (cR t) 71] ac wo := (h.pick [0] DC).sub ⟨rfl, rfl, rfl, rfl, trivial⟩
  clear hφ ξ
  refine gz h <| gx hK7 <| gq fun K8 hK8 => gr fun K9 hK9 => g0 (ay rfl) rfl <| g0 (v6 rfl rfl) rfl <| gn hK9 ?_; clear h ac wo; intro ac wo h
  refine jV h rfl (fun hc2 => ?_) (fun hc2 => ?_)
  ·
   have hd2 := of_decide_eq_true hc2
   refine jj ?_
   have hx1 := ck hL1 pt
   refine gz h <| gx hK3 <| gr fun K10 hK10 => g0 (az rfl) rfl <| gn hK10 <| gr fun K11 hK11 => g0 (ay rfl) rfl <| g0 (az rfl) rfl <| g0 (az rfl) rfl <| gn hK11 <| gT ?_; clear h ac wo; intro ac wo h
   have hd : dL l t = (0, false) := pt
   exact (rt h) (h.retP (by rw [hd] <;> rfl) trivial)
  ·
   have hd2 := of_decide_eq_false hc2
   refine la ?_
   refine hK8 _ _ ?_
   refine nB fun K12 hK12 => ?_
   refine gm mixed [dv _, dv _, dv _, dv _, dv _, dv _, dv _, dv _, dv _, dv _, dv _, dv _, dv _, dv _, dv _, dv _, dv _, dv _, dw _ [0], dv _, dv _, dv _, dv _, dv _, dv _, dv _, dv _, dv _, dv _, dv _] [⟨_, []⟩] h rfl (by kernel_rfl) ⟨fun _ _ => om rfl, fun _ _ => a6 (jq rfl rfl), fun _ _ => om rfl, fun _ _ => og2 rfl rfl rfl rfl (fun hg => Rd.step (ay rfl)), fun _ _ => og2 rfl rfl rfl rfl (fun hg => Rd.step (ay rfl)), fun _ _ => og2 rfl rfl rfl rfl (fun hg => Rd.step (gG (i := i) uu57 zz176 (cm rfl hg) (cm rfl hg) (hlv.nn (i := i) og) og)), fun _ _ => og2 rfl rfl rfl rfl (fun hg => Rd.step (fs uu176 rfl zz86 rfl (hlv.nn (i := 0) og) (cm rfl hg) rfl (k' := i * 21 + 0))), fun _ _ => og2 rfl rfl rfl rfl (fun hg => Rd.step (fs uu86 rfl zz4 rfl (hlv.nn (i := 0) og) (cm rfl hg) (by first | rfl | (simp only [Nat.add_assoc] <;> rfl)) (k' := i * 21 + 18))), fun _ _ => og2 rfl rfl rfl rfl (fun hg => Rd.step (iU (k := 18) aa4 zz4 hlv (dM og) (cm rfl hg) rfl rfl rfl (v := (.bool (((gt l i).iv).openLo))) rfl)), fun _ _ => og2 rfl rfl rfl rfl (fun hg => Rd.step (tb (cm rfl hg))), fun _ _ => a6 (r_or rfl (fun e => (cm rfl (notI e)))), fun _ _ => om rfl, fun _ _ => oh rfl rfl rfl rfl (fun hg => ay rfl), fun _ _ => oh rfl rfl rfl rfl (fun hg => ay rfl), fun _ _ => oh rfl rfl rfl rfl (fun hg => gG (i := i) uu57 zz176 (cm rfl hg) (cm rfl hg) (hlv.nn (i := i) og) og), fun _ _ => oh rfl rfl rfl rfl (fun hg => fs uu176 rfl zz86 rfl (hlv.nn (i := 0) og) (cm rfl hg) rfl (k' := i * 21 + 0)), fun _ _ => oh rfl rfl rfl rfl (fun hg => fs uu86 rfl zz71 rfl (hlv.nn (i := 0) og) (cm rfl hg) (by first | rfl | (simp only [Nat.add_assoc] <;> rfl)) (k' := i * 21 + 9)), fun _ _ => oh rfl rfl rfl rfl (fun hg => iU (k := 9) aa71 zz71 hlv (dM og) (cm rfl hg) rfl rfl rfl (v := (vR (((gt l i).iv).hi))) rfl), fun _ _ => oh rfl rfl rfl rfl (fun hg => iB aa71 zz71 rfl rfl rfl (v := (vR t)) rfl), fun _ _ => oh rfl rfl rfl rfl (fun hg => tX eqp71 (cm rfl hg) (cm rfl hg)), fun _ _ => oh rfl rfl rfl rfl (fun hg => ay (cm rfl hg)), fun _ _ => og4 rfl rfl rfl rfl (fun hg => Rd.step (ay rfl)), fun _ _ => og4 rfl rfl rfl rfl (fun hg => Rd.step (ay rfl)), fun _ _ => og4 rfl rfl rfl rfl (fun hg => Rd.step (gG (i := i) uu57 zz176 (cm rfl hg) (cm rfl hg) (hlv.nn (i := i) og) og)), fun _ _ => og4 rfl rfl rfl rfl (fun hg => Rd.step (fs uu176 rfl zz86 rfl (hlv.nn (i := 0) og) (cm rfl hg) rfl (k' := i * 21 + 0))), fun _ _ => og4 rfl rfl rfl rfl (fun hg => Rd.step (fs uu86 rfl zz4 rfl (hlv.nn (i := 0) og) (cm rfl hg) (by first | rfl | (simp only [Nat.add_assoc] <;> rfl)) (k' := i * 21 + 19))), fun _ _ => og4 rfl rfl rfl rfl (fun hg => Rd.step (iU (k := 19) aa4 zz4 hlv (dM og) (cm rfl hg) rfl rfl rfl (v := (.bool (((gt l i).iv).openHi))) rfl)), fun _ _ => og4 rfl rfl rfl rfl (fun hg => Rd.step (tb (cm rfl hg))), fun _ _ => oh rfl rfl rfl rfl (fun hg => r_or (cm rfl hg) (fun e => (cm rfl (andI hg (notI e))))), fun _ _ => a6 (pE rfl (fun e => (cm rfl e))), trivial⟩ ?_
   clear h ac wo; intro ξ ac wo hφ h
   replace h : St w0 68 [(0, lv), (3, (ptr b1 0)), (6, (iN i)), (61, (.bool (((decide ((ar (((gt l i).iv).lo) t) < 0)) || (!((gt l i).iv).openLo)) && ((!(decide (((gt l i).iv).hi = t))) || (!((gt l i).iv).openHi)))))] [.blk b1 (cR t) 71] ac wo := (h.pick [0] DC).sub ⟨rfl, rfl, rfl, rfl, trivial⟩
   clear hφ ξ
   refine hK12 _ _ ?_
   refine jV h rfl (fun hc3 => ?_) (fun hc3 => ?_)
   ·
    have q := hc3; try simp at q
    refine gz h <| gr fun K13 hK13 => g0 (ay rfl) rfl <| g0 (ay rfl) rfl <| g0 (gG (i := i) uu57 zz176 rfl rfl (hlv.nn (i := i) og) og) rfl <| g0 (fs uu176 rfl zz3 rfl (hlv.nn (i := 0) og) rfl rfl (k' := i * 21 + 20)) rfl <| g0 (iU (k := 20) Tryz.isAgg3 zz3 hlv (dM og) rfl rfl rfl rfl (v := (.int .i64 ((gt l i).f))) rfl) rfl <| g0 (az rfl) rfl <| g0 (az rfl) rfl <| gn hK13 <| gT ?_; clear h ac wo; intro ac wo h
    have hr1 := fR hL1 pt
    have hd : dL l t = ((gt l i).f, true) := pt
    exact (rt h) (h.retP (by rw [hd] <;> rfl) trivial)
   ·
    have q := hc3; try simp at q
    refine gz h <| gS <| gN <| gx hK6 <| gR <| g0 (ay rfl) rfl <| g0 (eL rfl rfl (r := ((i + 1 : Nat) : Int)) (by rw [IntKind.wrap_i64]; first | omega | grind)) rfl <| g0 (az rfl) rfl <| gx (fun _ _ => fS) ?_; clear h ac wo; intro ac wo h
    have hg := bq hL1 pt
    exact aE ⟨m1, og, _, og, hg, og, h.re [0]⟩
 ·
  have hd1 := of_decide_eq_false hc1
  refine jj ?_
  have hx1 := ck hL1 pt
  refine gz h <| gx hK3 <| gr fun K14 hK14 => g0 (az rfl) rfl <| gn hK14 <| gr fun K15 hK15 => g0 (ay rfl) rfl <| g0 (az rfl) rfl <| g0 (az rfl) rfl <| gn hK15 <| gT ?_; clear h ac wo; intro ac wo h
  have hd : dL l t = (0, false) := pt
  exact (rt h) (h.retP (by rw [hd] <;> rfl) trivial)
attribute [irreducible] dL
def et (x : U Int) (y : U Int) : Bool :=
 ((decide (x.iv = y.iv)) && (ch x.f y.f))
theorem ms (x : U Int) (y : U Int) (b : Nat) (zx : mh 30 x) (zy : mh 30 y) (w0 : World) (hbp : PV w0 b [.iface 59 (.agg #[])]) : Calls zP 206 #[(vUI x), (vUI y), (ptr b 0)] w0 (RetP w0 (.bool (et x y)) (True)) := by
 refine enter (N := 19) Tryz.func206 rfl rfl ?_; intro ac h
 refine gz h <| (xb) fun b1 => (xb) fun b2 => (xg (hs := by exact fun hg => (Rd.of_nil (r_ldP hbp Tryz.isAgg174 Tryz.sizeOf174 rfl rfl rfl (v := (.iface 59 (.agg #[]))) rfl)).step)) <| (xg (hs := by exact fun hg => eV enA (kk (jG x.f y.f)))) <| (W) ?_; clear h; intro _ _ h
 exact (rt h) (h.retP (by unfold et; rfl) trivial)
attribute [irreducible] et
def eqUI_K1 (xs : List (U Int)) (ys : List (U Int)) (x17 : Nat) : Bool :=
 true
def pV (xs : List (U Int)) (ys : List (U Int)) (x17 : Nat) : Nx Nat Bool :=
 bif (decide ((x17 : Int) < (xs.length : Int))) then
  bif (!(et (gt xs x17) (gt ys x17))) then
   .ret false
  else
   .go (x17 + 1)
 else
  .out x17
def eqUI (xs : List (U Int)) (ys : List (U Int)) : Bool :=
 bif (((xs.length : Int)) != ((ys.length : Int))) then
  false
 else
  fin (bo (fun s => pV xs ys s) ((xs.length - 0) + 1) 0) (fun s => eqUI_K1 xs ys s) (fun r => r)
theorem eqUI_ct (xs : List (U Int)) (xsv : Value) (ys : List (U Int)) (ysv : Value) (b : Nat) (zxs : All (mh 30) xs) (zys : All (mh 30) ys) (w0 : World) (hxsv : View w0 xsv xs) (hysv : View w0 ysv ys) (hbp : PV w0 b [.iface 59 (.agg #[])]) : Calls zP 205 #[xsv, ysv, (.func (.func 206) #[] #[(ptr b 0)])] w0 (RetP w0 (.bool (eqUI xs ys)) (True)) := by
 refine enter (N := 32) Tryz.func205 rfl rfl ?_; intro ac h
 have hlenxs := hxsv.len
 have hlenys := hysv.len
 refine nG fun K1 hK1 => ?_
 refine rd0 h (az rfl) rfl <| gn hK1 <| gq fun K2 hK2 => gr fun K3 hK3 => g0 (ay rfl) rfl <| g0 (gZ uu57 rfl hxsv.sl) rfl <| g0 (ay rfl) rfl <| g0 (gZ uu57 rfl hysv.sl) rfl <| g0 (r_neq rfl rfl (m := (xs.length : Int)) (n := (ys.length : Int))) rfl <| gn hK3 ?_; clear h; intro _ _ h
 refine jV h rfl (fun hc1 => ?_) (fun hc1 => ?_)
 ·
  have q := hc1; try simp at q
  refine gz h <| gr fun K4 hK4 => g0 (az rfl) rfl <| gn hK4 <| gT ?_; clear h; intro _ _ h
  have hd : eqUI xs ys = false := pt
  exact (rt h) (h.retP (by rw [hd] <;> rfl) trivial)
 ·
  have q := hc1; try simp at q
  refine gz h <| gS <| gx hK2 <| gq fun K5 hK5 => gr fun K6 hK6 => g0 (ay rfl) rfl <| g0 (gZ uu57 rfl hxsv.sl) rfl <| g0 (ay rfl) rfl <| gn hK6 <| gB ?_; clear h; intro _ _ h
  obtain ⟨X1, hX1⟩ : ∃ X, bo (fun s => pV xs ys s) ((xs.length - 0) + 1) 0 = X := ⟨_, rfl⟩
  refine wp_loop_ghost (fun n_ a_ w_ => ∃ (x17 : Nat), ((xs.length - x17) < n_) ∧ (bo (fun s => pV xs ys s) n_ x17 = X1) ∧ (x17 ≤ xs.length) ∧ St w0 32 [(1, ysv), (2, (.func (.func 206) #[] #[(ptr b 0)])), (15, xsv), (16, (iN xs.length)), (17, (iN x17))] [] a_ w_) ((xs.length - 0) + 1) ⟨0, og, hX1, og, h.rs⟩ ?_
  clear h; rintro n1 _ _ ⟨x17, hm1, hL1, hx17, h⟩
  obtain ⟨m1, rfl⟩ : ∃ m, n1 = m + 1 := ⟨n1 - 1, by omega⟩
  refine gz h <| gr fun K7 hK7 => g0 (jq rfl rfl) rfl <| gn hK7 <| gq fun K8 hK8 => ?_; clear h; intro _ _ h
  refine jV h rfl (fun hc2 => ?_) (fun hc2 => ?_)
  ·
   have hd2 := of_decide_eq_true hc2
   refine gz h <| gS <| gx hK8 <| gq fun K9 hK9 => gB <| gr fun K10 hK10 => g0 (ay rfl) rfl <| g0 (gG (i := x17) uu57 zz176 rfl rfl (hxsv.nn (i := x17) og) og) rfl <| g0 (iU (k := 0) aa176 zz176 hxsv (dM og) rfl (Nat.add_zero _) rfl rfl (v := (vUI (gt xs x17))) rfl) rfl <| ga (cUI (⟨(⟨(⟨oQ, oQ, false⟩ : GR), (⟨oQ, oQ, false⟩ : GR), false, false⟩ : Iv), 0⟩ : U Int)) vv176 rfl rfl fun b1 => g0 (az rfl) rfl <| gs 0 (cUI (gt xs x17)) rfl zz176 rfl rfl rfl rfl rfl rfl rfl <| gn hK10 <| gr fun K11 hK11 => g0 (ay rfl) rfl <| g0 (ay rfl) rfl <| g0 (gG (i := x17) uu57 zz176 rfl rfl (hysv.nn (i := x17) og) og) rfl <| g0 (iU (k := 0) aa176 zz176 hysv (dM og) rfl (Nat.add_zero _) rfl rfl (v := (vUI (gt ys x17))) rfl) rfl <| ga (cUI (⟨(⟨(⟨oQ, oQ, false⟩ : GR), (⟨oQ, oQ, false⟩ : GR), false, false⟩ : Iv), 0⟩ : U Int)) vv176 rfl rfl fun b2 => gs 0 (cUI (gt ys x17)) rfl zz176 rfl rfl rfl rfl rfl rfl rfl <| gn hK11 <| gr fun K12 hK12 => g0 (ay rfl) rfl <| g1 1 rfl (iB aa176 zz176 rfl rfl rfl (v := (vUI (gt xs x17))) rfl) rfl <| g1 0 rfl (iB aa176 zz176 rfl rfl rfl (v := (vUI (gt ys x17))) rfl) rfl <| gc (nA (cap := [(ptr b 0)]) Tryz.call206 rfl rfl) (fun w_ hB_ hS_ => ms (gt xs x17) (gt ys x17) b (All.gt zxs (dN _)) (All.gt zys (dN _)) w_ (hbp.below hB_)) rfl <| g0 (tb rfl) rfl <| gn hK12 ?_; clear h; intro _ _ h
   replace h := h.sub (F' := [(1, ysv), (2, (.func (.func 206) #[] #[(ptr b 0)])), (15, xsv), (16, (iN xs.length)), (17, (iN x17)), (30, (.bool (!(et (gt xs x17) (gt ys x17)))))]) ⟨rfl, rfl, rfl, rfl, rfl, rfl, trivial⟩
   refine jV h rfl (fun hc3 => ?_) (fun hc3 => ?_)
   ·
    have q := hc3; try simp at q
    refine gz h <| gr fun K13 hK13 => g0 (az rfl) rfl <| gn hK13 <| gT ?_; clear h; intro _ _ h
    have hr1 := fR hL1 pt
    have hd : eqUI xs ys = false := pt
    exact (rt h) (h.retP (by rw [hd] <;> rfl) trivial)
   ·
    have q := hc3; try simp at q
    refine gz h <| gS <| gN <| gx hK9 <| gR <| g0 (eL rfl rfl (r := ((x17 + 1 : Nat) : Int)) (by rw [IntKind.wrap_i64]; first | omega | grind)) rfl <| g0 (ay rfl) rfl <| gx (fun _ _ => fS) ?_; clear h; intro _ _ h
    have hg := bq hL1 pt
    exact aE ⟨m1, og, _, og, hg, og, h.re []⟩
  ·
   have hd2 := of_decide_eq_false hc2
   refine jj ?_
   have hx1 := ck hL1 pt
   refine gz h <| gx hK5 <| gr fun K14 hK14 => g0 (az rfl) rfl <| gn hK14 <| gT ?_; clear h; intro _ _ h
   have hd : eqUI xs ys = true := pt
   exact (rt h) (h.retP (by rw [hd] <;> rfl) trivial)
attribute [irreducible] eqUI
def gg (a : List (U Int)) (b : List (U Int)) : Bool :=
 (eqUI a b)
theorem nr (a : List (U Int)) (av : Value) (b : List (U Int)) (bv : Value) (za : All (mh 30) a) (zb : All (mh 30) b) (w0 : World) (hav : View w0 av a) (hbv : View w0 bv b) : Calls zP 120 #[(.iface 59 (.agg #[])), av, bv] w0 (RetP w0 (.bool (gg a b)) (True)) := by
 refine enter (N := 11) Tryz.func120 rfl rfl ?_; intro ac h
 have hlena := hav.len
 have hlenb := hbv.len
 refine nG fun K1 hK1 => ?_
 refine bx h [.iface 59 (.agg #[])] rfl rfl rfl fun b1 => g0 (az rfl) rfl <| gn hK1 <| gr fun K2 hK2 => g0 (ay rfl) rfl <| g0 (ay rfl) rfl <| g0 (mP rfl) rfl <| gc (cB Tryz.call205 rfl) (fun w_ hB_ hS_ => eqUI_ct a av b bv b1 za zb w_ (hav.below hB_) (hbv.below hB_) (blk_pv hS_ 0 rfl)) rfl <| g0 (az rfl) rfl <| gn hK2 <| gT ?_; clear h; intro _ _ h
 exact (rt h) (h.retP (by unfold gg; rfl) trivial)
attribute [irreducible] gg
end Go.Sx
namespace Go.Sx
def mF (x y : Iv) : Bd := if kB (bI x) < kB (bI y) then bI y else bI x
def mL (x y : Iv) : Bd := if kB (bE y) < kB (bE x) then bE y else bE x
theorem kF (i : Iv) : kB (bI i) = 2 * tk i.lo + (bif i.openLo then 1 else 0) := by rw [pf]; rfl
theorem kL (i : Iv) : kB (bE i) = 2 * tk i.hi + (bif !i.openHi then 1 else 0) := by rw [pl]; rfl
theorem mF_lt {x y : Iv} (h : tk x.lo < tk y.lo) : mF x y = ⟨y.lo, y.openLo⟩ := by
 unfold mF
 rw [if_pos (by have := bb x.openLo; have := bb y.openLo; rw [kF, kF]; omega), pf]
theorem mF_gt {x y : Iv} (h : tk y.lo < tk x.lo) : mF x y = ⟨x.lo, x.openLo⟩ := by
 unfold mF
 rw [if_neg (by have := bb x.openLo; have := bb y.openLo; rw [kF, kF]; omega), pf]
theorem mF_eq {x y : Iv} (h : x.lo = y.lo) : mF x y = ⟨x.lo, x.openLo || y.openLo⟩ := by
 unfold mF
 rw [kF, kF, h]
 unfold bI
 rw [h]
 cases x.openLo <;> cases y.openLo <;> simp
theorem mL_lt {x y : Iv} (h : tk x.hi < tk y.hi) : mL x y = ⟨x.hi, !x.openHi⟩ := by
 unfold mL
 rw [if_neg (by have := bb (!x.openHi); have := bb (!y.openHi); rw [kL, kL]; omega), pl]
theorem mL_gt {x y : Iv} (h : tk y.hi < tk x.hi) : mL x y = ⟨y.hi, !y.openHi⟩ := by
 unfold mL
 rw [if_pos (by have := bb (!x.openHi); have := bb (!y.openHi); rw [kL, kL]; omega), pl]
theorem mL_eq {x y : Iv} (h : x.hi = y.hi) : mL x y = ⟨x.hi, !(x.openHi || y.openHi)⟩ := by
 unfold mL
 rw [kL, kL, h]
 unfold bE
 rw [h]
 cases x.openHi <;> cases y.openHi <;> simp
theorem flag {a b : GR} (ha : Tm a) (hb : Tm b) (o p : Bool) : ((decide ((ar a b) < 0)) || ((((ar a b) == 0) && (!o)) && (!p))) = decide (kB ⟨a, o⟩ < kB ⟨b, !p⟩) := by
 rw [ha.cmp hb]
 unfold kB
 simp only
 have h1 := bb o
 have h2 := bb (!p)
 rcases Nat.lt_trichotomy (tk a) (tk b) with e | e | e
 ·rw [f7 e, decide_eq_true (by omega : 2 * tk a + (bif o then 1 else 0) < 2 * tk b + (bif !p then 1 else 0))]; rfl
 ·rw [e, ee]
  cases o <;> cases p <;> simp
 ·rw [gW e, decide_eq_false (by omega : ¬ 2 * tk a + (bif o then 1 else 0) < 2 * tk b + (bif !p then 1 else 0))]; rfl
theorem bet (a b : GR) (o p : Bool) : ed ⟨a, o⟩ ⟨b, !p⟩ = ⟨a, b, o, p⟩ := by
 unfold ed
 simp only [Bool.not_not]
theorem ti {x y : Iv} (hx : Tv x) (hy : Tv y) : bc x y = (ed (mF x y) (mL x y), decide (kB (mF x y) < kB (mL x y))) := by
 unfold bc
 rw [hx.1.cmp hy.1, hx.2.cmp hy.2]
 rcases Nat.lt_trichotomy (tk x.lo) (tk y.lo) with e | e | e
 ·rw [f7 e, mF_lt e, show decide ((-1 : Int) < 0) = true from rfl, cond_true]
  rcases Nat.lt_trichotomy (tk x.hi) (tk y.hi) with g | g | g
  ·rw [f7 g, show decide ((-1 : Int) > 0) = false from rfl, cond_false, show ((-1 : Int) == 0) = false from rfl, cond_false, mL_lt g, bet, flag hy.1 hx.2]
  ·rw [g, ee, show decide ((0 : Int) > 0) = false from rfl, cond_false, show ((0 : Int) == 0) = true from rfl, cond_true, mL_eq ((hx.2.inj hy.2).1 g), bet, flag hy.1 hx.2]
  ·rw [gW g, show decide ((1 : Int) > 0) = true from rfl, cond_true, mL_gt g, bet, flag hy.1 hy.2]
 ·rw [e, ee, mF_eq ((hx.1.inj hy.1).1 e), show decide ((0 : Int) < 0) = false from rfl, cond_false, show ((0 : Int) == 0) = true from rfl, cond_true]
  rcases Nat.lt_trichotomy (tk x.hi) (tk y.hi) with g | g | g
  ·rw [f7 g, show decide ((-1 : Int) > 0) = false from rfl, cond_false, show ((-1 : Int) == 0) = false from rfl, cond_false, mL_lt g, bet, flag hx.1 hx.2]
  ·rw [g, ee, show decide ((0 : Int) > 0) = false from rfl, cond_false, show ((0 : Int) == 0) = true from rfl, cond_true, mL_eq ((hx.2.inj hy.2).1 g), bet, flag hx.1 hx.2]
  ·rw [gW g, show decide ((1 : Int) > 0) = true from rfl, cond_true, mL_gt g, bet, flag hx.1 hy.2]
 ·rw [gW e, mF_gt e, show decide ((1 : Int) < 0) = false from rfl, cond_false, show ((1 : Int) == 0) = false from rfl, cond_false]
  rcases Nat.lt_trichotomy (tk x.hi) (tk y.hi) with g | g | g
  ·rw [f7 g, show decide ((-1 : Int) > 0) = false from rfl, cond_false, show ((-1 : Int) == 0) = false from rfl, cond_false, mL_lt g, bet, flag hx.1 hx.2]
  ·rw [g, ee, show decide ((0 : Int) > 0) = false from rfl, cond_false, show ((0 : Int) == 0) = true from rfl, cond_true, mL_eq ((hx.2.inj hy.2).1 g), bet, flag hx.1 hx.2]
  ·rw [gW g, show decide ((1 : Int) > 0) = true from rfl, cond_true, mL_gt g, bet, flag hx.1 hy.2]
theorem xh {x y : Iv} (hx : Tv x) (hy : Tv y) : ec x y = decide (kB (bE x) ≤ kB (bE y)) := by
 unfold ec
 rw [hx.2.cmp hy.2, kL, kL]
 have h1 := bb (!x.openHi)
 have h2 := bb (!y.openHi)
 rcases Nat.lt_trichotomy (tk x.hi) (tk y.hi) with e | e | e
 ·rw [f7 e, decide_eq_true (by omega : 2 * tk x.hi + (bif !x.openHi then 1 else 0) ≤ 2 * tk y.hi + (bif !y.openHi then 1 else 0))]; rfl
 ·rw [e, ee]
  cases x.openHi <;> cases y.openHi <;> simp
 ·rw [gW e, decide_eq_false (by omega : ¬ 2 * tk x.hi + (bif !x.openHi then 1 else 0) ≤ 2 * tk y.hi + (bif !y.openHi then 1 else 0))]; rfl
section
variable {γ : Type} (q : Nat → Nat → List γ) (m : Nat)
def rfA (i k : Nat) : List γ := (List.range i).flatMap (fun j => (List.range m).flatMap (q j)) ++ (List.range k).flatMap (q i)
variable {q m}
theorem nY {δ : Type} (g : Nat → List δ) (n : Nat) : (List.range (n + 1)).flatMap g = (List.range n).flatMap g ++ g n := by
 rw [List.range_succ, List.flatMap_append]; simp
theorem rfA_k (i k : Nat) : rfA q m i (k + 1) = rfA q m i k ++ q i k := by
 unfold rfA; rw [nY, List.append_assoc]
theorem vU (i : Nat) : rfA q m i m = rfA q m (i + 1) 0 := by
 unfold rfA; rw [nY]; simp
theorem nZ {δ : Type} {g : Nat → List δ} {a : Nat} : ∀ n, (∀ k, a ≤ k → k < a + n → g k = []) → (List.range (a + n)).flatMap g = (List.range a).flatMap g
 | 0, _ => rfl
 | n + 1, h => by
  rw [← Nat.add_assoc, nY, h (a + n) og og, List.append_nil]
  exact nZ n fun k h1 h2 => h k h1 og
theorem qV {i a b : Nat} (hab : a ≤ b) (h : ∀ k, a ≤ k → k < b → q i k = []) : rfA q m i b = rfA q m i a := by
 unfold rfA
 have := nZ (g := q i) (a := a) (b - a) (fun k h1 h2 => h k h1 og)
 rw [show a + (b - a) = b by omega] at this
 rw [this]
theorem rfA_rows {a b : Nat} (hab : a ≤ b) (h : ∀ i, a ≤ i → i < b → ∀ k, k < m → q i k = []) : rfA q m b 0 = rfA q m a 0 := by
 unfold rfA
 have := nZ (g := fun j => (List.range m).flatMap (q j)) (a := a) (b - a) (fun i h1 h2 => by
  have := nZ (g := q i) (a := 0) m (fun k _ hk => h i h1 og k og)
  rw [Nat.zero_add] at this
  exact this)
 rw [show a + (b - a) = b by omega] at this
 rw [this]
 rfl
end
section
variable {α β : Type} [Inhabited α] [Inhabited β]
def rfQ (u : List (U α)) (v : List (U β)) (i k : Nat) : List (Bt α β) :=
 bif decide (i < u.length) then (bif (bc (gt u i).iv (gt v k).iv).2 then [⟨(bc (gt u i).iv (gt v k).iv).1, (gt u i).f, (gt v k).f⟩] else []) else []
def rfB {R : Type} (a : List (U α)) (b : List (U β)) (out : List (Bt α β)) (i k : Nat) : Nx (List (Bt α β) × Nat × Nat) R :=
 bif ((decide ((i : Int) < (a.length : Int))) && (decide ((k : Int) < (b.length : Int)))) then
  bif (bc ((gt a i).iv) ((gt b k).iv)).2 then
   bif (ec ((gt a i).iv) ((gt b k).iv)) then
    .go ((out ++ [(⟨(bc ((gt a i).iv) ((gt b k).iv)).1, (gt a i).f, (gt b k).f⟩ : Bt α β)]), (i + 1), k)
   else
    .go ((out ++ [(⟨(bc ((gt a i).iv) ((gt b k).iv)).1, (gt a i).f, (gt b k).f⟩ : Bt α β)]), i, (k + 1))
  else
   bif (ec ((gt a i).iv) ((gt b k).iv)) then
    .go (out, (i + 1), k)
   else
    .go (out, i, (k + 1))
 else
  .out (out, i, k)
structure Od (u : List (U α)) : Prop where
 wv : ∀ x ∈ u, Wv x.iv
 ord : u.Pairwise fun a b => ey a.iv < (d4 b.iv : Int)
theorem Od.gt {u : List (U α)} (h : Od u) {i : Nat} (hi : i < u.length) : Wv (Sx.gt u i).iv := h.wv _ (by rw [hH hi]; exact List.getElem_mem _)
theorem Od.lt {u : List (U α)} (h : Od u) {i j : Nat} (hij : i < j) (hj : j < u.length) : kB (bE (Sx.gt u i).iv) ≤ kB (bI (Sx.gt u j).iv) := by
 have := List.pairwise_iff_getElem.1 h.ord i j og hj hij
 rw [← hH (by omega : i < u.length), ← hH hj] at this
 have h2 := oB (Sx.gt u i).iv
 rw [mU]; omega
theorem mF_ge (x y : Iv) : kB (bI x) ≤ kB (mF x y) ∧ kB (bI y) ≤ kB (mF x y) := by
 unfold mF; split <;> omega
theorem mL_le (x y : Iv) : kB (mL x y) ≤ kB (bE x) ∧ kB (mL x y) ≤ kB (bE y) := by
 unfold mL; split <;> omega
theorem sn {x y : Iv} (hx : Tv x) (hy : Tv y) (h : kB (bE x) ≤ kB (bI y) ∨ kB (bE y) ≤ kB (bI x)) : (bc x y).2 = false := by
 rw [ti hx hy]
 have h1 := mF_ge x y
 have h2 := mL_le x y
 exact decide_eq_false og
theorem qU {u : List (U α)} {v : List (U β)} {i k : Nat} (h : i < u.length → (bc (gt u i).iv (gt v k).iv).2 = false) : rfQ u v i k = [] := by
 unfold rfQ
 by_cases hi : i < u.length
 ·rw [h hi]; cases decide (i < u.length) <;> rfl
 ·rw [decide_eq_false hi]; rfl
theorem np {R : Type} {u : List (U α)} {v : List (U β)} (hu : Od u) (hv : Od v) : ∀ (n i k : Nat) (out : List (Bt α β)), i ≤ u.length → k ≤ v.length → (u.length - i) + (v.length - k) < n → out = rfA (rfQ u v) v.length i k →
 (∀ i' k', i < i' → k' < k → rfQ u v i' k' = []) → ∃ st, bo (R := R) (fun s => rfB u v s.1 s.2.1 s.2.2) n (out, i, k) = .inl st ∧ st.1 = rfA (rfQ u v) v.length u.length 0
 | 0, i, k, out, _, _, hn, _, _ => by omega
 | n + 1, i, k, out, hi, hk, hn, ho, hq => by
  by_cases hi2 : i < u.length
  ·by_cases hk2 : k < v.length
   ·have hc : ((decide ((i : Int) < (u.length : Int))) && (decide ((k : Int) < (v.length : Int)))) = true := by
     rw [decide_eq_true (by omega : (i : Int) < (u.length : Int)), decide_eq_true (by omega : (k : Int) < (v.length : Int))]; rfl
    have hqi : rfQ u v i k = bif (bc (gt u i).iv (gt v k).iv).2 then [⟨(bc (gt u i).iv (gt v k).iv).1, (gt u i).f, (gt v k).f⟩] else [] := by
     unfold rfQ; rw [decide_eq_true hi2, cond_true]
    have hb : rfB (R := R) u v out i k = bif (ec ((gt u i).iv) ((gt v k).iv)) then .go (out ++ rfQ u v i k, i + 1, k) else .go (out ++ rfQ u v i k, i, k + 1) := by
     unfold rfB
     rw [hc, cond_true, hqi]
     cases (bc (gt u i).iv (gt v k).iv).2
     ·rw [cond_false, cond_false, List.append_nil]
     ·rw [cond_true, cond_true]
    have ho2 : out ++ rfQ u v i k = rfA (rfQ u v) v.length i (k + 1) := by rw [ho, rfA_k]
    have wu := hu.gt hi2
    have wv := hv.gt hk2
    cases he : ec ((gt u i).iv) ((gt v k).iv) with
    | true =>
     rw [he, cond_true] at hb
     rw [xh wu.1 wv.1, decide_eq_true_eq] at he
     obtain ⟨st, e1, e2⟩ := np (R := R) hu hv n (i + 1) k (out ++ rfQ u v i k) og hk og (by
      rw [ho2, ← qV (show k + 1 ≤ v.length from hk2) (fun k' h1 h2 => qU fun _ => sn wu.1 (hv.gt h2).1 (.inl (Nat.le_trans he (hv.lt og h2)))), vU]
      exact (qV (Nat.zero_le k) fun k' _ h2 => hq (i + 1) k' og h2).symm) (fun i' k' h1 h2 => hq i' k' og h2)
     exact ⟨st, by rw [fJ n (show (fun s : List (Bt α β) × Nat × Nat => rfB (R := R) u v s.1 s.2.1 s.2.2) (out, i, k) = _ from hb)]; exact e1, e2⟩
    | false =>
     rw [he, cond_false] at hb
     rw [xh wu.1 wv.1, decide_eq_false_iff_not] at he
     obtain ⟨st, e1, e2⟩ := np (R := R) hu hv n i (k + 1) (out ++ rfQ u v i k) hi hk2 og ho2 (fun i' k' h1 h2 => by
      by_cases e : k' = k
      ·subst e
       refine qU fun h3 => sn (hu.gt h3).1 wv.1 (.inr ?_)
       have := hu.lt h1 h3
       have := wu.bd
       omega
      ·exact hq i' k' h1 og)
     exact ⟨st, by rw [fJ n (show (fun s : List (Bt α β) × Nat × Nat => rfB (R := R) u v s.1 s.2.1 s.2.2) (out, i, k) = _ from hb)]; exact e1, e2⟩
   ·have hb : rfB (R := R) u v out i k = .out (out, i, k) := by
     unfold rfB
     rw [decide_eq_false (by omega : ¬ (k : Int) < (v.length : Int)), Bool.and_false]; rfl
    have hkm : k = v.length := by omega
    refine ⟨(out, i, k), gj n hb, ?_⟩
    show out = _
    rw [ho, hkm, vU]
    exact (rfA_rows og fun i' h1 h2 k' h3 => hq i' k' og og).symm
  ·have hb : rfB (R := R) u v out i k = .out (out, i, k) := by
    unfold rfB
    rw [decide_eq_false (by omega : ¬ (i : Int) < (u.length : Int)), Bool.false_and]; rfl
   have him : i = u.length := by omega
   refine ⟨(out, i, k), gj n hb, ?_⟩
   show out = _
   rw [ho, him]
   exact qV (Nat.zero_le k) fun k' _ _ => qU fun h => absurd h (Nat.lt_irrefl _)
end
theorem s0 {u : List (U Qd)} {v : List (U Qd)} (hu : Od u) (hv : Od v) : au u v = rfA (rfQ u v) v.length u.length 0 := by
 unfold au
 obtain ⟨st, e1, e2⟩ := np (R := List (Bt Qd Qd)) hu hv ((u.length - 0) + (v.length - 0) + 1) 0 0 [] (Nat.zero_le _) (Nat.zero_le _) og rfl (fun _ _ _ h => absurd h (Nat.not_lt_zero _))
 refine (gD (s := st) e1).trans ?_
 unfold j7
 exact e2
theorem labels_ru : Ru (fun _ => True) bV bp := by
 have s : ∀ f g t, bV f g t = true ↔ f = g := fun f g t => by unfold bV; simp
 have r : ∀ f t, bp f t = f := fun f t => by unfold bp; rfl
 refine ⟨fun t _ f _ => (s _ _ _).2 rfl, fun t _ f g _ _ h => (s _ _ _).2 ((s _ _ _).1 h).symm, fun t _ f g e _ _ _ h1 h2 => (s _ _ _).2 (((s _ _ _).1 h1).trans ((s _ _ _).1 h2)), fun _ _ _ _ => trivial, fun t _ f _ => (s _ _ _).2 (r _ _), fun t _ f _ => by rw [r, r]⟩
end Go.Sx
namespace Go.Sx
def RB (B : Nat) (r : Rat) : Prop := r.num.natAbs ≤ B ∧ r.den ≤ B
theorem r7 (r : Rat) : r * (r.den : Rat) = (r.num : Rat) := by
 have hd : (r.den : Rat) ≠ 0 := fun e => r.den_nz (by exact_mod_cast e)
 have h : r = (r.num : Rat) / (r.den : Rat) := by
  have := Rat.num_divInt_den r
  rw [Rat.divInt_eq_div] at this
  exact this.symm
 have h2 := Rat.div_mul_cancel (a := (r.num : Rat)) hd
 rw [← h] at h2; exact h2
theorem rat_le {r : Rat} {p : Int} {q : Nat} (hq : 0 < q) (h : r * (q : Rat) = (p : Rat)) : r.num.natAbs ≤ p.natAbs ∧ r.den ≤ q := by
 have hd : (r.den : Rat) ≠ 0 := fun e => r.den_nz (by exact_mod_cast e)
 have hr : r * (r.den : Rat) = (r.num : Rat) := r7 r
 have e : (r.num : Rat) * (q : Rat) = (p : Rat) * (r.den : Rat) := by rw [← hr, ← h]; grind
 have e2 : r.num * (q : Int) = p * (r.den : Int) := by exact_mod_cast e
 have e3 : r.num.natAbs * q = p.natAbs * r.den := by
  have := congrArg Int.natAbs e2
  rwa [Int.natAbs_mul, Int.natAbs_mul, Int.natAbs_natCast, Int.natAbs_natCast] at this
 have hdv : r.den ∣ q := (r.reduced.symm).dvd_of_dvd_mul_left (by rw [e3]; exact Nat.dvd_mul_left _ _)
 refine ⟨?_, Nat.le_of_dvd hq hdv⟩
 obtain ⟨t, ht⟩ := hdv
 have ht0 : 0 < t := by rcases Nat.eq_zero_or_pos t with e | e; · rw [e] at ht; omega
                        ·exact e
 rw [ht, ← Nat.mul_assoc, Nat.mul_right_comm] at e3
 have e4 := Nat.eq_of_mul_eq_mul_right (Nat.pos_of_ne_zero r.den_nz) e3
 rw [← e4]
 exact Nat.le_mul_of_pos_right _ ht0
theorem RB.mono {B C : Nat} {r : Rat} (h : RB B r) (hc : B ≤ C) : RB C r := ⟨Nat.le_trans h.1 hc, Nat.le_trans h.2 hc⟩
theorem RB.add {B C : Nat} {r s : Rat} (hr : RB B r) (hs : RB C s) : RB (2 * (B * C)) (r + s) := by
 have h1 : r * (r.den : Rat) = (r.num : Rat) := r7 r
 have h2 : s * (s.den : Rat) = (s.num : Rat) := r7 s
 have := rat_le (r := r + s) (p := r.num * s.den + s.num * r.den) (q := r.den * s.den) (Nat.mul_pos (Nat.pos_of_ne_zero r.den_nz) (Nat.pos_of_ne_zero s.den_nz)) (by
  push_cast
  rw [← h1, ← h2]; grind)
 have a1 : (r.num * (s.den : Int)).natAbs ≤ B * C := by rw [Int.natAbs_mul, Int.natAbs_natCast]; exact Nat.mul_le_mul hr.1 hs.2
 have a2 : (s.num * (r.den : Int)).natAbs ≤ B * C := by rw [Int.natAbs_mul, Int.natAbs_natCast, Nat.mul_comm]; exact Nat.mul_le_mul hr.2 hs.1
 have a3 := Int.natAbs_add_le (r.num * (s.den : Int)) (s.num * (r.den : Int))
 have a4 : r.den * s.den ≤ B * C := Nat.mul_le_mul hr.2 hs.2
 exact ⟨by omega, by omega⟩
theorem RB.mul {B C : Nat} {r s : Rat} (hr : RB B r) (hs : RB C s) : RB (B * C) (r * s) := by
 have h1 : r * (r.den : Rat) = (r.num : Rat) := r7 r
 have h2 : s * (s.den : Rat) = (s.num : Rat) := r7 s
 have := rat_le (r := r * s) (p := r.num * s.num) (q := r.den * s.den) (Nat.mul_pos (Nat.pos_of_ne_zero r.den_nz) (Nat.pos_of_ne_zero s.den_nz)) (by
  push_cast
  rw [← h1, ← h2]; grind)
 rw [Int.natAbs_mul] at this
 exact ⟨Nat.le_trans this.1 (Nat.mul_le_mul hr.1 hs.1), Nat.le_trans this.2 (Nat.mul_le_mul hr.2 hs.2)⟩
theorem RB.neg {B : Nat} {r : Rat} (hr : RB B r) : RB B (-r) := ⟨by rw [Rat.neg_num, Int.natAbs_neg]; exact hr.1, by rw [Rat.neg_den]; exact hr.2⟩
theorem RB.sub {B C : Nat} {r s : Rat} (hr : RB B r) (hs : RB C s) : RB (2 * (B * C)) (r - s) := by
 rw [Rat.sub_eq_add_neg]; exact hr.add hs.neg
theorem qQ {x : GQ} {n : Nat} (h : QOk x) (hb : RB (256 ^ n - 1) (g7 x)) (hn : n * 2 ^ 30 ≤ 70368744177664) : SzQ 30 x := by
 rw [oq h] at hb
 obtain ⟨h1, h2⟩ := hb
 have p : 0 < 256 ^ n := Nat.pow_pos DC
 have sz : ∀ m, m ≤ 256 ^ n - 1 → SzB 30 m := fun m hm => by
  have := (d9 n m).2 og
  exact Nat.le_trans (Nat.mul_le_mul_right _ this) hn
 refine ⟨sz _ (by rw [← kK]; exact h1), sz _ ?_⟩
 have h2' : o8 x ≤ 256 ^ n - 1 := h2
 unfold o8 at h2'
 rcases h.2.1 with e | ⟨_, e⟩
 ·rw [e]; exact Nat.zero_le _
 ·split at h2'
  ·rename_i e2; rw [e2] at e; exact absurd e DC
  ·exact h2'
end Go.Sx
