/- A part of the proof that the law PiecesKinds answers true at every input and leaves its arguments as they were. -/
import Derived.Test.YtnkaneggnjallaaGreatDoorH6
import Derived.Test.YtnkaneggnjallaaGreatDoorGarith
set_option linter.unusedVariables false
set_option linter.unusedSimpArgs false
open Go.Proofs.Tryz renaming isAgg40 → aa40, sizeOf40 → zz40, underlying34 → nn34, runUnderlying43 → uu43, isAgg42 → aa42, sizeOf42 → zz42, call97 → cc97, zeroValue69 → vv69, sizeOf69 → zz69, isAgg69 → aa69, isAgg53 → aa53, sizeOf53 → zz53, runUnderlying69 → uu69, runUnderlying34 → uu34, sizeOf145 → zz145, runUnderlying145 → uu145, sizeOf55 → zz55, runUnderlying55 → uu55, runUnderlying112 → uu112, runUnderlying153 → uu153, isAgg55 → aa55, sizeOf219 → zz219, runUnderlying219 → uu219, sizeOf4 → zz4, isAgg4 → aa4, isAgg145 → aa145, runUnderlying24 → uu24, runUnderlying87 → uu87, call155 → cc155, isAgg34 → aa34, sizeOf34 → zz34
namespace Go.Sx
open Go Go.RowKit Go.Proofs
set_option maxRecDepth 100000
set_option maxHeartbeats 40000000
attribute [local irreducible] aF cX ar aL cp aK aM aP du bP aI
theorem eqi42 : EqIn Tryz.prog 4 42 vN := eqS (c := cN) (fun _ => rfl) Tryz.underlying42 Tryz.stoodInHeld42 fun d x y w hd => by
 refine Eq.trans (eqF (by decide) (ec aa40 zz40 (v := vQ (x.x0)) rfl w) (ec aa40 zz40 (v := vQ (y.x0)) rfl w) (mK d _ _ w (by omega)) (eqF (by decide) (ec aa40 zz40 (v := vQ (x.x1)) rfl w) (ec aa40 zz40 (v := vQ (y.x1)) rfl w) (mK d _ _ w (by omega)) (eqF (by decide) (ec aa40 zz40 (v := vQ (x.y0)) rfl w) (ec aa40 zz40 (v := vQ (y.y0)) rfl w) (mK d _ _ w (by omega)) (eqF (by decide) (ec aa40 zz40 (v := vQ (x.y1)) rfl w) (ec aa40 zz40 (v := vQ (y.y1)) rfl w) (mK d _ _ w (by omega)) eqF0)))) ?_
 congr 1
 rw [decide_eq_decide]
 cases x; cases y; simp
theorem eqp42 : EqP Tryz.prog 42 vN := EqIn.p (k := 4) rfl (c := fun x => (cN x).toArray) (fun _ => rfl) Tryz.eqGuardType42 eqi42
theorem gg : SlT Tryz.prog 34 145 36 408 [.bool false, .string ⟨#[]⟩, .bool false, .string ⟨#[]⟩, .bool false, .string ⟨#[]⟩, .bool false, .string ⟨#[]⟩, .bool false, .bool false, .string ⟨#[]⟩, .bool false, .string ⟨#[]⟩, .bool false, .string ⟨#[]⟩, .bool false, .string ⟨#[]⟩, .bool false, .bool false, .bool false, .bool false, .string ⟨#[]⟩, .bool false, .string ⟨#[]⟩, .bool false, .string ⟨#[]⟩, .bool false, .string ⟨#[]⟩, .bool false, .string ⟨#[]⟩, .bool false, .string ⟨#[]⟩, .bool false, .string ⟨#[]⟩, .bool false, .string ⟨#[]⟩] := ⟨nn34, Tryz.t145, _, Tryz.type145, rfl, rfl, rfl, rfl, rfl, by decide, by decide⟩
theorem o4 : SlT Tryz.prog 153 219 36 408 [.bool false, .string ⟨#[]⟩, .bool false, .string ⟨#[]⟩, .bool false, .string ⟨#[]⟩, .bool false, .string ⟨#[]⟩, .bool false, .bool false, .string ⟨#[]⟩, .bool false, .string ⟨#[]⟩, .bool false, .string ⟨#[]⟩, .bool false, .string ⟨#[]⟩, .bool false, .bool false, .bool false, .bool false, .string ⟨#[]⟩, .bool false, .string ⟨#[]⟩, .bool false, .string ⟨#[]⟩, .bool false, .string ⟨#[]⟩, .bool false, .string ⟨#[]⟩, .bool false, .string ⟨#[]⟩, .bool false, .string ⟨#[]⟩, .bool false, .string ⟨#[]⟩] := ⟨Tryz.underlying153, Tryz.t219, _, Tryz.type219, rfl, rfl, rfl, rfl, rfl, by decide, by decide⟩
theorem kj (w : World) : (method (Tryz.prog.types.size + Made.depth) 43 (.agg #[]) "Equal").run Tryz.prog w = .ok (34, .agg #[]) w := k8 (P := Tryz.prog) (T := 43) Tryz.type43 (by kernel_rfl) uu43 w
theorem jM (w : World) : (nilAhead (Tryz.prog.types.size + Made.depth) 43 (.agg #[]) "Equal").run Tryz.prog w = .ok (some false) w := ly (P := Tryz.prog) (T := 43) (f := 34) Tryz.type43 (by kernel_rfl) uu43 w
def bJ (f : Ln) (g : Ln) : Bool :=
 (decide (f = g))
theorem fL (f : Ln) (g : Ln) (zf : SzN 20 f) (zg : SzN 20 g) (w0 : World)  : Calls Tryz.prog 34 #[(.agg #[]), (vN f), (vN g)] w0 (eX w0 (.bool (bJ f g)) (True)) := by
 refine enter (N := 10) (args := [(.agg #[]), (vN f), (vN g)]) Tryz.func34 rfl rfl ?_; intro ac h
 refine eq fun K1 hK1 => ?_
 refine bx h [] rfl rfl rfl fun b1 => gb (cN f) rfl rfl rfl fun b2 => gb (cN g) rfl rfl rfl fun b3 => g0 (ak rfl) rfl <| gn hK1 <| gr fun K2 hK2 => g1 1 rfl (aV aa42 zz42 rfl rfl rfl (v := (vN f)) rfl) rfl <| g1 0 rfl (aV aa42 zz42 rfl rfl rfl (v := (vN g)) rfl) rfl <| g0 (eY eqp42 rfl rfl) rfl <| g0 (ak rfl) rfl <| gn hK2 <| gT ?_; clear h ac; intro ac wo h
 exact ret h rfl (.tmp rfl .nil) rfl (h.retP (by unfold bJ; rfl) trivial)
attribute [irreducible] bJ
def a6 (f : Ln) (g : Ln) (t : GR) : Bool :=
 ((cp ((aB f).1) ((aB g).1) t) && (cp ((aB f).2) ((aB g).2) t))
theorem dW (f : Ln) (g : Ln) (t : GR) (zf : SzN 20 f) (zg : SzN 20 g) (zt : SzR 30 t) (w0 : World)  : Calls Tryz.prog 33 #[(.agg #[]), (vN f), (vN g), (vR t)] w0 (eX w0 (.bool (a6 f g t)) (True)) := by
 refine enter (N := 33) (args := [(.agg #[]), (vN f), (vN g), (vR t)]) Tryz.func33 rfl rfl ?_; intro ac h
 have c1 := fK f 20 (by omega) zf
 have s1 := aJ (c1 w0)
 have c2 := fK g 20 (by omega) zg
 have s2 := aJ (c2 w0)
 refine eq fun K1 hK1 => ?_
 refine bx h [] rfl rfl rfl fun b1 => gb (cN f) rfl rfl rfl fun b2 => gb (cN g) rfl rfl rfl fun b3 => gb (cR t) rfl rfl rfl fun b4 => g0 (ak rfl) rfl <| gn hK1 <| gr fun K2 hK2 => g1 2 rfl (aV aa42 zz42 rfl rfl rfl (v := (vN f)) rfl) rfl <| gc (ck cc97 rfl) (kk c1) rfl <| g0 (aj rfl) rfl <| g0 (bO rfl rfl) rfl <| g0 (bO rfl rfl) rfl <| ga (cD oD) vv69 rfl rfl fun b5 => ga (cD oD) vv69 rfl rfl fun b6 => gs 1 (cD ((aB f).1)) rfl zz69 rfl rfl rfl rfl rfl rfl rfl <| gs 0 (cD ((aB f).2)) rfl zz69 rfl rfl rfl rfl rfl rfl rfl <| gn hK2 <| gr fun K3 hK3 => g1 3 rfl (aV aa42 zz42 rfl rfl rfl (v := (vN g)) rfl) rfl <| gc (ck cc97 rfl) (kk c2) rfl <| g0 (aj rfl) rfl <| g0 (bO rfl rfl) rfl <| g0 (bO rfl rfl) rfl <| ga (cD oD) vv69 rfl rfl fun b7 => ga (cD oD) vv69 rfl rfl fun b8 => gs 1 (cD ((aB g).1)) rfl zz69 rfl rfl rfl rfl rfl rfl rfl <| gs 0 (cD ((aB g).2)) rfl zz69 rfl rfl rfl rfl rfl rfl rfl <| gn hK3 ?_; clear h ac; intro ac wo h
 replace h := h.sub (F' := [(7, (ptr b4 0)), (9, (ptr b5 0)), (10, (ptr b6 0)), (11, (ptr b7 0)), (12, (ptr b8 0))]) ⟨rfl, rfl, rfl, rfl, rfl, trivial⟩
 refine gz h <| gr fun K4 hK4 => g1 3 rfl (aV aa69 zz69 rfl rfl rfl (v := (vD ((aB f).1))) rfl) rfl <| g1 1 rfl (aV aa69 zz69 rfl rfl rfl (v := (vD ((aB g).1))) rfl) rfl <| g1 4 rfl (aV aa53 zz53 rfl rfl rfl (v := (vR t)) rfl) rfl <| gc (ck Tryz.call30 rfl) (kk (hQ ((aB f).1) ((aB g).1) t 6 (by omega) s1.1 s2.1 (dx zt (by omega)))) rfl <| g0 (aj rfl) rfl <| ge1 rfl rfl (fun hg => (Rd.of_mem (i := 2) (aV aa69 zz69 rfl rfl rfl (v := (vD ((aB f).2))) rfl) rfl).step) rfl <| ge1 rfl rfl (fun hg => (Rd.of_mem (i := 0) (aV aa69 zz69 rfl rfl rfl (v := (vD ((aB g).2))) rfl) rfl).step) rfl <| ge1 rfl rfl (fun hg => (Rd.of_mem (i := 4) (aV aa53 zz53 rfl rfl rfl (v := (vR t)) rfl) rfl).step) rfl <| ge1 rfl rfl (fun hg => dI (ck Tryz.call30 (aU (ao rfl hg) (aU (ao rfl hg) (aU (ao rfl hg) rfl)))) (kk (hQ ((aB f).2) ((aB g).2) t 6 (by omega) s1.2 s2.2 (dx zt (by omega))))) rfl <| g0 (da rfl (fun e => (ao rfl e))) rfl <| g0 (ak rfl) rfl <| gn hK4 ?_; clear h ac wo; intro ac wo h
 replace h := h.sub (F' := [(8, (.bool ((cp ((aB f).1) ((aB g).1) t) && (cp ((aB f).2) ((aB g).2) t))))]) ⟨rfl, trivial⟩
 refine fU ?_
 exact ret h rfl (.tmp rfl .nil) rfl (h.retP (by unfold a6; rfl) trivial)
attribute [irreducible] a6
def aS (f : Ln) (t : GR) : Ln :=
 (⟨(aK ((aB f).1) t).c0, (aK ((aB f).1) t).c1, (aK ((aB f).2) t).c0, (aK ((aB f).2) t).c1⟩ : Ln)
theorem eW (f : Ln) (t : GR) (zf : SzN 30 f) (zt : SzR 30 t) (w0 : World)  : Calls Tryz.prog 32 #[(.agg #[]), (vN f), (vR t)] w0 (eX w0 (vN (aS f t)) (SzN 20 (aS f t))) := by
  refine enter (N := 29) (args := [(.agg #[]), (vN f), (vR t)]) Tryz.func32 rfl rfl ?_; intro ac h
  have c1 := fK f 30 (by omega) zf
  have s1 := aJ (c1 w0)
  refine eq fun K1 hK1 => ?_
  refine bx h [] rfl rfl rfl fun b1 => gb (cN f) rfl rfl rfl fun b2 => gb (cR t) rfl rfl rfl fun b3 => ga (cN (⟨oQ, oQ, oQ, oQ⟩ : Ln)) Tryz.zeroValue42 rfl rfl fun b4 => gn hK1 <| gr fun K2 hK2 => g1 2 rfl (aV aa42 zz42 rfl rfl rfl (v := (vN f)) rfl) rfl <| gc (ck cc97 rfl) (kk c1) rfl <| g0 (aj rfl) rfl <| g0 (bO rfl rfl) rfl <| g0 (bO rfl rfl) rfl <| ga (cD oD) vv69 rfl rfl fun b5 => ga (cD oD) vv69 rfl rfl fun b6 => gs 1 (cD ((aB f).1)) rfl zz69 rfl rfl rfl rfl rfl rfl rfl <| gs 0 (cD ((aB f).2)) rfl zz69 rfl rfl rfl rfl rfl rfl rfl <| gn hK2 <| gq fun K3 hK3 => ?_; clear h ac; intro ac wo h
  have c2 := eD ((aB f).1) t 20 (by omega) s1.1 zt
  have s2 := aJ (c2 w0)
  have s3 := aJ ((eD ((aB f).2) t 20 (by omega) s1.2 zt) w0)
  refine cj mixed [⟨.det (vD ((aB f).1)), [1]⟩, ⟨.det (vR t), [3]⟩, ⟨.det (vD (aK ((aB f).1) t)), []⟩, ⟨.det (vD ((aB f).2)), [0]⟩, ⟨.det (vR t), [3]⟩, ⟨.det (vD (aK ((aB f).2) t)), []⟩, ⟨.det undef, [1]⟩, ⟨.det undef, [0]⟩] [⟨.blk b6 (cD ((aB f).2)) 69, [(7, .con (.blk b6 (cD (aK ((aB f).2) t)) 69))]⟩, ⟨.blk b5 (cD ((aB f).1)) 69, [(6, .con (.blk b5 (cD (aK ((aB f).1) t)) 69))]⟩, ⟨.blk b4 (cN (⟨oQ, oQ, oQ, oQ⟩ : Ln)) 42, []⟩, ⟨.blk b3 (cR t) 53, []⟩, ⟨.blk b2 (cN f) 42, []⟩, ⟨.blk b1 [] 43, []⟩] h rfl (by kernel_rfl) ⟨?_, ?_, ?_, ?_, ?_, ?_, ?_, ?_, trivial⟩ ?_
  · intro ξ hφ; exact cK [.blk b5 (cD ((aB f).1)) 69] rfl rfl (aV aa69 zz69 rfl rfl rfl (v := (vD ((aB f).1))) rfl)
  · intro ξ hφ; exact cK [.blk b3 (cR t) 53] rfl rfl (aV aa53 zz53 rfl rfl rfl (v := (vR t)) rfl)
  · intro ξ hφ; exact eC (dI (ck Tryz.call37 rfl) (kk c2))
  · intro ξ hφ; exact cK [.blk b6 (cD ((aB f).2)) 69] rfl rfl (aV aa69 zz69 rfl rfl rfl (v := (vD ((aB f).2))) rfl)
  · intro ξ hφ; exact cK [.blk b3 (cR t) 53] rfl rfl (aV aa53 zz53 rfl rfl rfl (v := (vR t)) rfl)
  · intro ξ hφ; exact eC (dI (ck Tryz.call37 rfl) (kk (eD ((aB f).2) t 20 (by omega) s1.2 zt)))
  · intro ξ hφ; exact gY [.blk b5 (cD ((aB f).1)) 69] [.blk b5 (cD (aK ((aB f).1) t)) 69] rfl rfl (iM zz69 rfl rfl rfl rfl rfl rfl rfl)
  · intro ξ hφ; exact gY [.blk b6 (cD ((aB f).2)) 69] [.blk b6 (cD (aK ((aB f).2) t)) 69] rfl rfl (iM zz69 rfl rfl rfl rfl rfl rfl rfl)
  clear h ac wo; intro ξ ac wo hφ h
  replace h : St w0 29 [(6, (ptr b4 0)), (7, (ptr b5 0)), (8, (ptr b6 0))] [.blk b6 (cD (aK ((aB f).2) t)) 69, .blk b5 (cD (aK ((aB f).1) t)) 69, .blk b4 (cN (⟨oQ, oQ, oQ, oQ⟩ : Ln)) 42, .blk b3 (cR t) 53, .blk b2 (cN f) 42, .blk b1 [] 43] ac wo := (h.pick [0, 1, 2, 3, 4, 5] (by decide)).sub ⟨rfl, rfl, rfl, trivial⟩
  clear hφ ξ
  refine gz h <| gx hK3 <| gr fun K4 hK4 => g0 (fa uu69 rfl zz40 rfl rfl rfl (k' := 0)) rfl <| g1 1 rfl (aV aa40 zz40 rfl rfl rfl (v := (vQ ((aK ((aB f).1) t).c0))) rfl) rfl <| g0 (fa uu69 rfl zz40 rfl rfl rfl (k' := 4)) rfl <| g1 1 rfl (aV aa40 zz40 rfl rfl rfl (v := (vQ ((aK ((aB f).1) t).c1))) rfl) rfl <| g0 (fa uu69 rfl zz40 rfl rfl rfl (k' := 0)) rfl <| g1 0 rfl (aV aa40 zz40 rfl rfl rfl (v := (vQ ((aK ((aB f).2) t).c0))) rfl) rfl <| g0 (fa uu69 rfl zz40 rfl rfl rfl (k' := 4)) rfl <| g1 0 rfl (aV aa40 zz40 rfl rfl rfl (v := (vQ ((aK ((aB f).2) t).c1))) rfl) rfl <| g0 (bq bld42 rfl rfl (v := (vN (⟨(aK ((aB f).1) t).c0, (aK ((aB f).1) t).c1, (aK ((aB f).2) t).c0, (aK ((aB f).2) t).c1⟩ : Ln))) rfl) rfl <| gs 2 (cN (⟨(aK ((aB f).1) t).c0, (aK ((aB f).1) t).c1, (aK ((aB f).2) t).c0, (aK ((aB f).2) t).c1⟩ : Ln)) rfl zz42 rfl rfl rfl rfl rfl rfl rfl <| gn hK4 <| gT ?_; clear h ac wo; intro ac wo h
  exact ret h rfl (.cell (v := (vN (⟨(aK ((aB f).1) t).c0, (aK ((aB f).1) t).c1, (aK ((aB f).2) t).c0, (aK ((aB f).2) t).c1⟩ : Ln))) rfl (i := 2) rfl aa42 zz42 rfl rfl rfl .nil) rfl (h.retP (by unfold aS; rfl) (by unfold aS; exact ⟨s2.1, s2.2.1, s3.1, s3.2.1⟩))
attribute [irreducible] aS
def gH (l : List (U Ln)) (more : List GR) (out : List GR) (i : Nat) : (List GR) :=
 out
def cu (l : List (U Ln)) (more : List GR) (out : List GR) (i : Nat) : Nx ((List GR) × Nat) (List GR) :=
 bif (decide (((i : Nat) : Int) < ((l.length : Nat) : Int))) then
  .go ((aq (aq out (((gt l i).iv).lo)) (((gt l i).iv).hi)), (i + 1))
 else
  .out (out, i)
def bS (l : List (U Ln)) (more : List GR) : (List GR) :=
 fin (bI (fun s => cu l more s.1 s.2) ((l.length - 0) + 1) (more, 0)) (fun s => gH l more s.1 s.2) (fun r => r)
theorem jt (l : List (U Ln)) (lv : Value) (more : List GR) (morev : Value) (hl : l.length ≤ 100) (hm : more.length ≤ 100) (zl : All (jX 30) l) (zmore : All (SzR 30) more) (w0 w : World) (B : Asn) (hbel : Below w0.heap.size w0 w) (hsep : ∃ Z_, Sep w0.heap.size w [.row (α := GR) 53 morev more, B] Z_) (hlv : View w0 lv l) : Calls Tryz.prog 93 #[lv, morev] w (RetY w0 (fun v => All (SzR 30) (bS l more) ∧ (bS l more).length ≤ more.length + 2 * l.length) (fun v => [.row (α := GR) 53 v (bS l more), B])) := by
 refine jB (N := 30) (args := [lv, morev]) Tryz.func93 rfl rfl hbel hsep ?_; intro ac h
 have hlenl := hlv.len
 have hlenmore := h.len 0 rfl
 refine eq fun K1 hK1 => ?_
 refine rd0 h (ak rfl) rfl <| gn hK1 <| gr fun K2 hK2 => g0 (aj rfl) rfl <| g0 (ak rfl) rfl <| gn hK2 <| gq fun K3 hK3 => gr fun K4 hK4 => g0 (ak rfl) rfl <| gn hK4 <| gB ?_; clear h ac; intro ac wo h
 obtain ⟨X1, hX1⟩ : ∃ X, bI (fun s => cu l more s.1 s.2) ((l.length - 0) + 1) (more, 0) = X := ⟨_, rfl⟩
 refine wp_loop_ghost (fun n_ a_ w_ => ∃ (out : List GR) (i : Nat) (outv : Value), ((l.length - i) < n_) ∧ (bI (fun s => cu l more s.1 s.2) n_ (out, i) = X1) ∧ (i ≤ l.length) ∧ (All (SzR 30) out) ∧ (out.length ≤ more.length + 2 * i) ∧ St w0 30 [(0, lv), (5, outv), (6, (.int .i64 ((i : Nat) : Int)))] [.row (α := GR) 53 outv out, B] a_ w_) ((l.length - 0) + 1) ⟨more, 0, morev, (by omega), hX1, (by first | omega | grind), zmore, (by first | omega | grind), (h.sub ⟨rfl, rfl, rfl, trivial⟩)⟩ ?_
 clear h ac wo; rintro n1 ac wo ⟨out, i, outv, hm1, hL1, hi, zout, hol, h⟩
 obtain ⟨m1, rfl⟩ : ∃ m, n1 = m + 1 := ⟨n1 - 1, by omega⟩
 refine gz h <| gq fun K5 hK5 => gr fun K6 hK6 => g0 (aj rfl) rfl <| g0 (aj rfl) rfl <| g0 (dy uu34 rfl hlv.sl) rfl <| g0 (dP rfl rfl) rfl <| gn hK6 ?_; clear h ac wo; intro ac wo h
 refine db h rfl (fun hc1 => ?_) (fun hc1 => ?_)
 ·
  have hd1 := of_decide_eq_true hc1
  refine dR ?_
  refine hK5 _ _ ?_
  refine cG fun K7 hK7 => ?_
  refine eR ?_
  refine cj mixed [dv _, dv _, dv _, dv _, dv _, dv _, dv _, ⟨.nd (.con (All (SzR 30) (aq out (((gt l i).iv).lo)) ∧ (aq out (((gt l i).iv).lo)).length ≤ out.length + 1)), [0]⟩, dv _, dv _, dv _, dv _, dv _, dv _, ⟨.nd (.con (All (SzR 30) (aq (aq out (((gt l i).iv).lo)) (((gt l i).iv).hi)) ∧ (aq (aq out (((gt l i).iv).lo)) (((gt l i).iv).hi)).length ≤ (aq out (((gt l i).iv).lo)).length + 1)), [0]⟩, ⟨.nd (.two 15 14 fun a b => a = b), []⟩] [⟨.row (α := GR) 53 outv out, [(7, .one 7 fun v => .row (α := GR) 53 v (aq out (((gt l i).iv).lo))), (14, .one 14 fun v => .row (α := GR) 53 v (aq (aq out (((gt l i).iv).lo)) (((gt l i).iv).hi)))]⟩, ⟨_, []⟩] h rfl (by kernel_rfl) ⟨fun _ _ => om rfl, fun _ _ => om rfl, fun _ _ => om rfl, fun _ _ => az (cZ (i := i) uu34 zz145 rfl rfl (hlv.nn (i := i) (by first | omega | grind)) (by first | omega | grind)), fun _ _ => az (fs uu145 rfl zz55 rfl (hlv.nn (i := 0) (by first | omega | grind)) rfl rfl (k' := i * 36 + 0)), fun _ _ => az (fs uu55 rfl zz53 rfl (hlv.nn (i := 0) (by first | omega | grind)) rfl (by first | rfl | (simp only [Nat.add_assoc] <;> rfl)) (k' := i * 36 + 0)), fun _ _ => az (d9 (k := 0) aa53 zz53 hlv (bd (by first | omega | grind)) rfl rfl rfl rfl (v := (vR (((gt l i).iv).lo))) rfl), fun _ _ => kh (ψ := fun _ => All (SzR 30) (aq out (((gt l i).iv).lo)) ∧ (aq out (((gt l i).iv).lo)).length ≤ out.length + 1) (B := fun v => [.row (α := GR) 53 v (aq out (((gt l i).iv).lo))]) [.row (α := GR) 53 outv out] rfl (fun v _ => by simp only [eB, bn] <;> rfl) (fun v hv => hv) (kM (vs := [outv, (vR (((gt l i).iv).lo))]) (A := fun v => [.row (α := GR) 53 v (aq out (((gt l i).iv).lo))]) (ck Tryz.call140 rfl) (fun w_ B_ hB_ hS_ => fd out outv (((gt l i).iv).lo) (by first | omega | grind) zout ((All.gt zl (cr _)).1).1 w0 w_ B_ hB_ hS_ )), fun _ _ => om rfl, fun _ _ => om rfl, fun _ _ => az (cZ (i := i) uu34 zz145 rfl rfl (hlv.nn (i := i) (by first | omega | grind)) (by first | omega | grind)), fun _ _ => az (fs uu145 rfl zz55 rfl (hlv.nn (i := 0) (by first | omega | grind)) rfl rfl (k' := i * 36 + 0)), fun _ _ => az (fs uu55 rfl zz53 rfl (hlv.nn (i := 0) (by first | omega | grind)) rfl (by first | rfl | (simp only [Nat.add_assoc] <;> rfl)) (k' := i * 36 + 9)), fun _ _ => az (d9 (k := 9) aa53 zz53 hlv (bd (by first | omega | grind)) rfl rfl rfl rfl (v := (vR (((gt l i).iv).hi))) rfl), (fun ξ hφ => by have of5_7 : All (SzR 30) (aq out (((gt l i).iv).lo)) ∧ (aq out (((gt l i).iv).lo)).length ≤ out.length + 1 := hφ 7 rfl; have pof5_7 := of5_7.2; exact kh (ψ := fun _ => All (SzR 30) (aq (aq out (((gt l i).iv).lo)) (((gt l i).iv).hi)) ∧ (aq (aq out (((gt l i).iv).lo)) (((gt l i).iv).hi)).length ≤ (aq out (((gt l i).iv).lo)).length + 1) (B := fun v => [.row (α := GR) 53 v (aq (aq out (((gt l i).iv).lo)) (((gt l i).iv).hi))]) [.row (α := GR) 53 (ξ 7) (aq out (((gt l i).iv).lo))] rfl (fun v _ => by simp only [eB, bn] <;> rfl) (fun v hv => hv) (kM (vs := [(ξ 7), (vR (((gt l i).iv).hi))]) (A := fun v => [.row (α := GR) 53 v (aq (aq out (((gt l i).iv).lo)) (((gt l i).iv).hi))]) (ck Tryz.call140 rfl) (fun w_ B_ hB_ hS_ => fd (aq out (((gt l i).iv).lo)) (ξ 7) (((gt l i).iv).hi) (by first | omega | grind) of5_7.1 ((All.gt zl (cr _)).1).2 w0 w_ B_ hB_ hS_ ))), (fun ξ hφ => by have of5_7 : All (SzR 30) (aq out (((gt l i).iv).lo)) ∧ (aq out (((gt l i).iv).lo)).length ≤ out.length + 1 := hφ 7 rfl; have pof5_7 := of5_7.2; have of5_14 : All (SzR 30) (aq (aq out (((gt l i).iv).lo)) (((gt l i).iv).hi)) ∧ (aq (aq out (((gt l i).iv).lo)) (((gt l i).iv).hi)).length ≤ (aq out (((gt l i).iv).lo)).length + 1 := hφ 14 rfl; have pof5_14 := of5_14.2; exact qk (φ := .two 15 14 fun a b => a = b) (v := ξ 14) [] rfl rfl (by show upd ξ 15 (ξ 14) 15 = upd ξ 15 (ξ 14) 14; rw [bn, g8 (by decide)]) (ak rfl)), trivial⟩ ?_
  clear h ac wo; intro ξ ac wo hφ h
  replace h : St w0 30 [(0, lv), (5, ξ 15), (6, (.int .i64 ((i : Nat) : Int)))] [.row (α := GR) 53 (ξ 14) (aq (aq out (((gt l i).iv).lo)) (((gt l i).iv).hi)), B] ac wo := (h.pick [0, 1] (by decide)).sub ⟨rfl, rfl, rfl, trivial⟩
  have of5_7 : All (SzR 30) (aq out (((gt l i).iv).lo)) ∧ (aq out (((gt l i).iv).lo)).length ≤ out.length + 1 := hφ 7
  have pof5_7 := of5_7.2
  have of5_14 : All (SzR 30) (aq (aq out (((gt l i).iv).lo)) (((gt l i).iv).hi)) ∧ (aq (aq out (((gt l i).iv).lo)) (((gt l i).iv).hi)).length ≤ (aq out (((gt l i).iv).lo)).length + 1 := hφ 14
  have pof5_14 := of5_14.2
  rw [show ξ 15 = ξ 14 from hφ 15] at h
  generalize hsv14 : ξ 14 = sv1 at h; clear hsv14
  clear hφ ξ
  refine gz h <| gN <| gx hK7 <| gR <| g0 (aj rfl) rfl <| g0 (bi rfl rfl (r := ((i + 1 : Nat) : Int)) (by rw [IntKind.wrap_i64]; first | omega | grind)) rfl <| g0 (ak rfl) rfl <| gx (fun _ _ => bg) ?_; clear h ac wo; intro ac wo h
  exact aE ⟨m1, (by omega), _, _, _, (by first | omega | grind), bf hL1 (show cu l more out i = .go _ from (cT hc1)), (by first | omega | grind), of5_14.1, (by first | omega | grind), (h.pick [0, 1] (by decide)).sub ⟨rfl, rfl, rfl, trivial⟩⟩
 ·
  have hd1 := of_decide_eq_false hc1
  refine dO ?_
  have hx1 := cJ hL1 (show cu l more out i = .out (out, i) from (cF hc1))
  refine gz h <| gx hK3 <| gr fun K8 hK8 => g0 (aj rfl) rfl <| g0 (ak rfl) rfl <| gn hK8 <| gT ?_; clear h ac wo; intro ac wo h
  have hd : bS l more = out := (ee (hX1.trans hx1))
  exact ret h rfl (.tmp rfl .nil) rfl ((h.pick [0, 1] (by decide)).retY (by rw [hd]; exact ⟨zout, (by first | omega | grind)⟩) (by rw [hd]; rfl))
attribute [irreducible] bS
def jp (l : List (U Ln)) (ts : List GR) (out : List (At Ln)) (i : Nat) (i2 : Nat) (out2 : List (At Ln)) : (List (At Ln)) :=
 out2
def fl (l : List (U Ln)) (ts : List GR) (out : List (At Ln)) (i : Nat) (i2 : Nat) (out2 : List (At Ln)) (k3 : Nat) (out3 : List (At Ln)) : Nx (Nat × (List (At Ln))) (List (At Ln)) :=
 .go ((i2 + 1), out3)
def cb (l : List (U Ln)) (ts : List GR) (out : List (At Ln)) (i : Nat) (i2 : Nat) (out2 : List (At Ln)) (k3 : Nat) (out3 : List (At Ln)) : Nx (Nat × (List (At Ln))) (List (At Ln)) :=
 bif (decide (((k3 : Nat) : Int) < ((l.length : Nat) : Int))) then
  bif (aY ((gt l k3).iv) ((gt out3 i2).frm) ((gt out3 i2).til) ((gt out3 i2).gap)) then
   .go ((k3 + 1), (out3.set i2 (⟨(gt out3 i2).frm, (gt out3 i2).til, (gt out3 i2).gap, true, (gt l k3).f⟩ : At Ln)))
  else
   .go ((k3 + 1), out3)
 else
  .out (k3, out3)
def co (l : List (U Ln)) (ts : List GR) (out : List (At Ln)) (i : Nat) (i2 : Nat) (out2 : List (At Ln)) : Nx (Nat × (List (At Ln))) (List (At Ln)) :=
 bif (decide (((i2 : Nat) : Int) < ((out2.length : Nat) : Int))) then
  fin (bI (fun s => cb l ts out i i2 out2 s.1 s.2) ((l.length - 0) + 1) (0, out2)) (fun s => fl l ts out i i2 out2 s.1 s.2) (fun r => .ret r)
 else
  .out (i2, out2)
def fm (l : List (U Ln)) (ts : List GR) (out : List (At Ln)) (i : Nat) : (List (At Ln)) :=
 fin (bI (fun s => co l ts out i s.1 s.2) ((out.length - 0) + 1) (0, out)) (fun s => jp l ts out i s.1 s.2) (fun r => r)
def bM (l : List (U Ln)) (ts : List GR) (out : List (At Ln)) (i : Nat) : Nx ((List (At Ln)) × Nat) (List (At Ln)) :=
 bif (decide (((i : Nat) : Int) < ((ts.length : Nat) : Int))) then
  bif (decide (((i + 1 : Nat) : Int) < ((ts.length : Nat) : Int))) then
   .go (((out ++ [(⟨(gt ts i), (gt ts i), false, false, (⟨(⟨(⟨false, 0⟩ : GI), (⟨false, 0⟩ : GI)⟩ : GQ), (⟨(⟨false, 0⟩ : GI), (⟨false, 0⟩ : GI)⟩ : GQ), (⟨(⟨false, 0⟩ : GI), (⟨false, 0⟩ : GI)⟩ : GQ), (⟨(⟨false, 0⟩ : GI), (⟨false, 0⟩ : GI)⟩ : GQ)⟩ : Ln)⟩ : At Ln)]) ++ [(⟨(gt ts i), (gt ts (i + 1)), true, false, (⟨(⟨(⟨false, 0⟩ : GI), (⟨false, 0⟩ : GI)⟩ : GQ), (⟨(⟨false, 0⟩ : GI), (⟨false, 0⟩ : GI)⟩ : GQ), (⟨(⟨false, 0⟩ : GI), (⟨false, 0⟩ : GI)⟩ : GQ), (⟨(⟨false, 0⟩ : GI), (⟨false, 0⟩ : GI)⟩ : GQ)⟩ : Ln)⟩ : At Ln)]), (i + 1))
  else
   .go ((out ++ [(⟨(gt ts i), (gt ts i), false, false, (⟨(⟨(⟨false, 0⟩ : GI), (⟨false, 0⟩ : GI)⟩ : GQ), (⟨(⟨false, 0⟩ : GI), (⟨false, 0⟩ : GI)⟩ : GQ), (⟨(⟨false, 0⟩ : GI), (⟨false, 0⟩ : GI)⟩ : GQ), (⟨(⟨false, 0⟩ : GI), (⟨false, 0⟩ : GI)⟩ : GQ)⟩ : Ln)⟩ : At Ln)]), (i + 1))
 else
  .out (out, i)
def ca (l : List (U Ln)) (ts : List GR) : (List (At Ln)) :=
 fin (bI (fun s => bM l ts s.1 s.2) ((ts.length - 0) + 1) ([], 0)) (fun s => fm l ts s.1 s.2) (fun r => r)
theorem gf (l : List (U Ln)) (lv : Value) (ts : List GR) (tsv : Value) (hl : l.length ≤ 1000) (ht : ts.length ≤ 1000) (zl : All (jX 30) l) (zts : All (SzR 30) ts) (w0 : World) (hlv : View w0 lv l) (htsv : View w0 tsv ts) : Calls Tryz.prog 92 #[lv, tsv] w0 (RetR w0 219 (ca l ts) (All (SzAN 30) (ca l ts) ∧ Alt (ca l ts) ∧ (ca l ts).length ≤ 2 * ts.length)) := by
 refine enter (N := 92) (args := [lv, tsv]) Tryz.func92 rfl rfl ?_; intro ac h
 have hlenl := hlv.len
 have hlents := htsv.len
 refine eq fun K1 hK1 => ?_
 refine rd0 h (ak rfl) rfl <| gn hK1 <| gr fun K2 hK2 => g0 (ak rfl) rfl <| gn hK2 <| gq fun K3 hK3 => gr fun K4 hK4 => g0 (ak rfl) rfl <| gn hK4 <| gB ?_; clear h ac; intro ac wo h
 replace h := h.nilRow (α := At Ln) 219
 obtain ⟨X1, hX1⟩ : ∃ X, bI (fun s => bM l ts s.1 s.2) ((ts.length - 0) + 1) ([], 0) = X := ⟨_, rfl⟩
 refine wp_loop_ghost (fun n_ a_ w_ => ∃ (out : List (At Ln)) (i : Nat) (outv : Value), ((ts.length - i) < n_) ∧ (bI (fun s => bM l ts s.1 s.2) n_ (out, i) = X1) ∧ (i ≤ ts.length) ∧ (All (SzAN 30) out) ∧ (out.length = 2 * i ∨ (i = ts.length ∧ out.length + 1 = 2 * i)) ∧ (Alt out) ∧ St w0 92 [(0, lv), (1, tsv), (5, outv), (6, (.int .i64 ((i : Nat) : Int)))] [.row (α := At Ln) 219 outv out] a_ w_) ((ts.length - 0) + 1) ⟨[], 0, (.slice none 0 0), (by omega), hX1, (by first | omega | grind), All.nil, (Or.inl rfl), Alt.nil, (h.sub ⟨rfl, rfl, rfl, rfl, trivial⟩)⟩ ?_
 clear h ac wo; rintro n1 ac wo ⟨out, i, outv, hm1, hL1, hi, zout, hol, hal, h⟩
 obtain ⟨m1, rfl⟩ : ∃ m, n1 = m + 1 := ⟨n1 - 1, by omega⟩
 refine gz h <| gq fun K5 hK5 => gr fun K6 hK6 => g0 (aj rfl) rfl <| g0 (aj rfl) rfl <| g0 (dy uu112 rfl htsv.sl) rfl <| g0 (dP rfl rfl) rfl <| gn hK6 ?_; clear h ac wo; intro ac wo h
 refine db h rfl (fun hc1 => ?_) (fun hc1 => ?_)
 ·
  have hd1 := of_decide_eq_true hc1
  refine dR ?_
  refine hK5 _ _ ?_
  refine cG fun K7 hK7 => ?_
  refine eR ?_
  refine cG fun K8 hK8 => ?_
  replace h := h.emps 1
  refine cj mixed [dv _, dv _, dv _, dv _, dv _, dv _, dv _, dv _, dv _, dv _, ⟨.nd (.one 10 fun v => NN v 1), [1]⟩, ⟨.nd (.con True), [0, 1]⟩, ⟨.nd (.two 12 11 fun a b => a = b), []⟩] [⟨.row (α := At Ln) 219 outv out, [(11, .one 11 fun v => .row (α := At Ln) 219 v (out ++ [(⟨(gt ts i), (gt ts i), false, false, (⟨oQ, oQ, oQ, oQ⟩ : Ln)⟩ : At Ln)]))]⟩, ⟨.emp, [(10, .one 10 fun v => .row (α := At Ln) 219 v ([(⟨(gt ts i), (gt ts i), false, false, (⟨oQ, oQ, oQ, oQ⟩ : Ln)⟩ : At Ln)]))]⟩] h rfl (by kernel_rfl) ⟨fun _ _ => om rfl, fun _ _ => om rfl, fun _ _ => om rfl, fun _ _ => az (cZ (i := i) uu112 zz53 rfl rfl (htsv.nn (i := i) (by first | omega | grind)) (by first | omega | grind)), fun _ _ => az (d9 (k := 0) aa53 zz53 htsv (bd (by first | omega | grind)) rfl (Nat.add_zero _) rfl rfl (v := (vR (gt ts i))) rfl), fun _ _ => om rfl, fun _ _ => om rfl, fun _ _ => az (cZ (i := i) uu112 zz53 rfl rfl (htsv.nn (i := i) (by first | omega | grind)) (by first | omega | grind)), fun _ _ => az (d9 (k := 0) aa53 zz53 htsv (bd (by first | omega | grind)) rfl (Nat.add_zero _) rfl rfl (v := (vR (gt ts i))) rfl), fun _ _ => az (bq bld219 rfl rfl (v := (vAN (⟨(gt ts i), (gt ts i), false, false, (⟨oQ, oQ, oQ, oQ⟩ : Ln)⟩ : At Ln))) rfl), fun _ _ => kh (ψ := fun v => NN v 1) (B := fun v => [.row (α := At Ln) 219 v ([(⟨(gt ts i), (gt ts i), false, false, (⟨oQ, oQ, oQ, oQ⟩ : Ln)⟩ : At Ln)])]) [.emp] rfl (fun v _ => by simp only [eB, bn] <;> rfl) (fun v hv => by simpa [DF.one, bn] using hv) (jI (bF (α := At Ln) (xs := [.tmp 24]) (vs := [(vAN (⟨(gt ts i), (gt ts i), false, false, (⟨oQ, oQ, oQ, oQ⟩ : Ln)⟩ : At Ln))]) [(⟨(gt ts i), (gt ts i), false, false, (⟨oQ, oQ, oQ, oQ⟩ : Ln)⟩ : At Ln)] o4 rfl rfl rfl (by decide))), fun ξ hφ => kh (B := fun v => [.row (α := At Ln) 219 v (out ++ [(⟨(gt ts i), (gt ts i), false, false, (⟨oQ, oQ, oQ, oQ⟩ : Ln)⟩ : At Ln)]), .row (α := At Ln) 219 (ξ 10) ([(⟨(gt ts i), (gt ts i), false, false, (⟨oQ, oQ, oQ, oQ⟩ : Ln)⟩ : At Ln)])]) [.row (α := At Ln) 219 outv out, .row (α := At Ln) 219 (ξ 10) ([(⟨(gt ts i), (gt ts i), false, false, (⟨oQ, oQ, oQ, oQ⟩ : Ln)⟩ : At Ln)])] rfl (fun v _ => by simp only [eB, bn] <;> rfl) (fun _ _ => trivial) (dD (xs := out) (ys := [(⟨(gt ts i), (gt ts i), false, false, (⟨oQ, oQ, oQ, oQ⟩ : Ln)⟩ : At Ln)]) o4 (fun w hs => (row_view hs 0 rfl)) rfl rfl (by first | omega | grind)), fun ξ hφ => qk (φ := .two 12 11 fun a b => a = b) (v := ξ 11) [] rfl rfl (by show upd ξ 12 (ξ 11) 12 = upd ξ 12 (ξ 11) 11; rw [bn, g8 (by decide)]) (ak rfl), trivial⟩ ?_
  clear h ac wo; intro ξ ac wo hφ h
  replace h : St w0 92 [(0, lv), (1, tsv), (5, ξ 12), (6, (.int .i64 ((i : Nat) : Int)))] [.row (α := At Ln) 219 (ξ 11) (out ++ [(⟨(gt ts i), (gt ts i), false, false, (⟨oQ, oQ, oQ, oQ⟩ : Ln)⟩ : At Ln)])] ac wo := (h.pick [0] (by decide)).sub ⟨rfl, rfl, rfl, rfl, trivial⟩
  rw [show ξ 12 = ξ 11 from hφ 12] at h
  generalize hsv11 : ξ 11 = sv2 at h; clear hsv11
  clear hφ ξ
  refine gz h <| gx hK8 <| gr fun K9 hK9 => g0 (aj rfl) rfl <| g0 (bi rfl rfl (r := ((i + 1 : Nat) : Int)) (by rw [IntKind.wrap_i64]; first | omega | grind)) rfl <| g0 (aj rfl) rfl <| g0 (dy uu112 rfl htsv.sl) rfl <| g0 (dP rfl rfl) rfl <| gn hK9 ?_; clear h ac wo; intro ac wo h
  refine db h rfl (fun hc2 => ?_) (fun hc2 => ?_)
  ·
   have hd2 := of_decide_eq_true hc2
   replace h := h.emps 1
   refine cj mixed [dv _, dv _, dv _, dv _, dv _, dv _, dv _, dv _, dv _, dv _, dv _, ⟨.nd (.one 11 fun v => NN v 1), [1]⟩, ⟨.nd (.con True), [0, 1]⟩, ⟨.nd (.two 13 12 fun a b => a = b), []⟩] [⟨.row (α := At Ln) 219 sv2 (out ++ [(⟨(gt ts i), (gt ts i), false, false, (⟨oQ, oQ, oQ, oQ⟩ : Ln)⟩ : At Ln)]), [(12, .one 12 fun v => .row (α := At Ln) 219 v ((out ++ [(⟨(gt ts i), (gt ts i), false, false, (⟨oQ, oQ, oQ, oQ⟩ : Ln)⟩ : At Ln)]) ++ [(⟨(gt ts i), (gt ts (i + 1)), true, false, (⟨oQ, oQ, oQ, oQ⟩ : Ln)⟩ : At Ln)]))]⟩, ⟨.emp, [(11, .one 11 fun v => .row (α := At Ln) 219 v ([(⟨(gt ts i), (gt ts (i + 1)), true, false, (⟨oQ, oQ, oQ, oQ⟩ : Ln)⟩ : At Ln)]))]⟩] h rfl (by kernel_rfl) ⟨fun _ _ => om rfl, fun _ _ => om rfl, fun _ _ => om rfl, fun _ _ => az (cZ (i := i) uu112 zz53 rfl rfl (htsv.nn (i := i) (by first | omega | grind)) (by first | omega | grind)), fun _ _ => az (d9 (k := 0) aa53 zz53 htsv (bd (by first | omega | grind)) rfl (Nat.add_zero _) rfl rfl (v := (vR (gt ts i))) rfl), fun _ _ => om rfl, fun _ _ => om rfl, fun _ _ => az (bi rfl rfl (r := ((i + 1 : Nat) : Int)) (by rw [IntKind.wrap_i64]; first | omega | grind)), fun _ _ => az (cZ (i := (i + 1)) uu112 zz53 rfl rfl (htsv.nn (i := (i + 1)) (by first | omega | grind)) (by first | omega | grind)), fun _ _ => az (d9 (k := 0) aa53 zz53 htsv (bd (by first | omega | grind)) rfl (Nat.add_zero _) rfl rfl (v := (vR (gt ts (i + 1)))) rfl), fun _ _ => az (bq bld219 rfl rfl (v := (vAN (⟨(gt ts i), (gt ts (i + 1)), true, false, (⟨oQ, oQ, oQ, oQ⟩ : Ln)⟩ : At Ln))) rfl), fun _ _ => kh (ψ := fun v => NN v 1) (B := fun v => [.row (α := At Ln) 219 v ([(⟨(gt ts i), (gt ts (i + 1)), true, false, (⟨oQ, oQ, oQ, oQ⟩ : Ln)⟩ : At Ln)])]) [.emp] rfl (fun v _ => by simp only [eB, bn] <;> rfl) (fun v hv => by simpa [DF.one, bn] using hv) (jI (bF (α := At Ln) (xs := [.tmp 42]) (vs := [(vAN (⟨(gt ts i), (gt ts (i + 1)), true, false, (⟨oQ, oQ, oQ, oQ⟩ : Ln)⟩ : At Ln))]) [(⟨(gt ts i), (gt ts (i + 1)), true, false, (⟨oQ, oQ, oQ, oQ⟩ : Ln)⟩ : At Ln)] o4 rfl rfl rfl (by decide))), fun ξ hφ => kh (B := fun v => [.row (α := At Ln) 219 v ((out ++ [(⟨(gt ts i), (gt ts i), false, false, (⟨oQ, oQ, oQ, oQ⟩ : Ln)⟩ : At Ln)]) ++ [(⟨(gt ts i), (gt ts (i + 1)), true, false, (⟨oQ, oQ, oQ, oQ⟩ : Ln)⟩ : At Ln)]), .row (α := At Ln) 219 (ξ 11) ([(⟨(gt ts i), (gt ts (i + 1)), true, false, (⟨oQ, oQ, oQ, oQ⟩ : Ln)⟩ : At Ln)])]) [.row (α := At Ln) 219 sv2 (out ++ [(⟨(gt ts i), (gt ts i), false, false, (⟨oQ, oQ, oQ, oQ⟩ : Ln)⟩ : At Ln)]), .row (α := At Ln) 219 (ξ 11) ([(⟨(gt ts i), (gt ts (i + 1)), true, false, (⟨oQ, oQ, oQ, oQ⟩ : Ln)⟩ : At Ln)])] rfl (fun v _ => by simp only [eB, bn] <;> rfl) (fun _ _ => trivial) (dD (xs := (out ++ [(⟨(gt ts i), (gt ts i), false, false, (⟨oQ, oQ, oQ, oQ⟩ : Ln)⟩ : At Ln)])) (ys := [(⟨(gt ts i), (gt ts (i + 1)), true, false, (⟨oQ, oQ, oQ, oQ⟩ : Ln)⟩ : At Ln)]) o4 (fun w hs => (row_view hs 0 rfl)) rfl rfl (by first | omega | grind)), fun ξ hφ => qk (φ := .two 13 12 fun a b => a = b) (v := ξ 12) [] rfl rfl (by show upd ξ 13 (ξ 12) 13 = upd ξ 13 (ξ 12) 12; rw [bn, g8 (by decide)]) (ak rfl), trivial⟩ ?_
   clear h ac wo; intro ξ ac wo hφ h
   replace h : St w0 92 [(0, lv), (1, tsv), (5, ξ 13), (6, (.int .i64 ((i : Nat) : Int)))] [.row (α := At Ln) 219 (ξ 12) ((out ++ [(⟨(gt ts i), (gt ts i), false, false, (⟨oQ, oQ, oQ, oQ⟩ : Ln)⟩ : At Ln)]) ++ [(⟨(gt ts i), (gt ts (i + 1)), true, false, (⟨oQ, oQ, oQ, oQ⟩ : Ln)⟩ : At Ln)])] ac wo := (h.pick [0] (by decide)).sub ⟨rfl, rfl, rfl, rfl, trivial⟩
   rw [show ξ 13 = ξ 12 from hφ 13] at h
   generalize hsv12 : ξ 12 = sv3 at h; clear hsv12
   clear hφ ξ
   refine gz h <| gN <| gx hK7 <| gR <| g0 (aj rfl) rfl <| g0 (bi rfl rfl (r := ((i + 1 : Nat) : Int)) (by rw [IntKind.wrap_i64]; first | omega | grind)) rfl <| g0 (ak rfl) rfl <| gx (fun _ _ => bg) ?_; clear h ac wo; intro ac wo h
   have hnl : ¬ (i = ts.length) := by omega
   exact aE ⟨m1, (by omega), _, _, _, (by first | omega | grind), bf hL1 (show bM l ts out i = .go _ from (Eq.trans (cT hc1) (cT hc2))), (by first | omega | grind), (All.app (All.app zout (All.cons ⟨(All.gt zts (jE _)), (All.gt zts (jE _)), ⟨⟨(cO 0 (by decide) (by omega)), (cO 0 (by decide) (by omega))⟩, ⟨(cO 0 (by decide) (by omega)), (cO 0 (by decide) (by omega))⟩, ⟨(cO 0 (by decide) (by omega)), (cO 0 (by decide) (by omega))⟩, ⟨(cO 0 (by decide) (by omega)), (cO 0 (by decide) (by omega))⟩⟩⟩ All.nil)) (All.cons ⟨(All.gt zts (jE _)), (All.gt zts (jE _)), ⟨⟨(cO 0 (by decide) (by omega)), (cO 0 (by decide) (by omega))⟩, ⟨(cO 0 (by decide) (by omega)), (cO 0 (by decide) (by omega))⟩, ⟨(cO 0 (by decide) (by omega)), (cO 0 (by decide) (by omega))⟩, ⟨(cO 0 (by decide) (by omega)), (cO 0 (by decide) (by omega))⟩⟩⟩ All.nil)), (by simp; omega), (by first | exact (hal.snoc (by simp; omega)).snoc (by simp; omega) | exact hal.snoc (by simp; omega)), (h.pick [0] (by decide)).sub ⟨rfl, rfl, rfl, rfl, trivial⟩⟩
  ·
   have hd2 := of_decide_eq_false hc2
   refine gz h <| gS <| gN <| gx hK7 <| gR <| g0 (aj rfl) rfl <| g0 (bi rfl rfl (r := ((i + 1 : Nat) : Int)) (by rw [IntKind.wrap_i64]; first | omega | grind)) rfl <| g0 (ak rfl) rfl <| gx (fun _ _ => bg) ?_; clear h ac wo; intro ac wo h
   have hnl : ¬ (i = ts.length) := by omega
   exact aE ⟨m1, (by omega), _, _, _, (by first | omega | grind), bf hL1 (show bM l ts out i = .go _ from (Eq.trans (cT hc1) (cF hc2))), (by first | omega | grind), (All.app zout (All.cons ⟨(All.gt zts (jE _)), (All.gt zts (jE _)), ⟨⟨(cO 0 (by decide) (by omega)), (cO 0 (by decide) (by omega))⟩, ⟨(cO 0 (by decide) (by omega)), (cO 0 (by decide) (by omega))⟩, ⟨(cO 0 (by decide) (by omega)), (cO 0 (by decide) (by omega))⟩, ⟨(cO 0 (by decide) (by omega)), (cO 0 (by decide) (by omega))⟩⟩⟩ All.nil)), (by simp; omega), (by first | exact (hal.snoc (by simp; omega)).snoc (by simp; omega) | exact hal.snoc (by simp; omega)), (h.pick [0] (by decide)).sub ⟨rfl, rfl, rfl, rfl, trivial⟩⟩
 ·
  have hd1 := of_decide_eq_false hc1
  refine dO ?_
  have hx1 := cJ hL1 (show bM l ts out i = .out (out, i) from (cF hc1))
  refine gz h <| gx hK3 <| gq fun K10 hK10 => gr fun K11 hK11 => g0 (ak rfl) rfl <| gn hK11 <| gB ?_; clear h ac wo; intro ac wo h
  obtain ⟨X2, hX2⟩ : ∃ X, bI (fun s => co l ts out i s.1 s.2) ((out.length - 0) + 1) (0, out) = X := ⟨_, rfl⟩
  refine wp_loop_ghost (fun n_ a_ w_ => ∃ (i2 : Nat) (out2 : List (At Ln)), ((out2.length - i2) < n_) ∧ (bI (fun s => co l ts out i s.1 s.2) n_ (i2, out2) = X2) ∧ (i2 ≤ out2.length) ∧ (All (SzAN 30) out2) ∧ (Alt out2) ∧ (out2.length ≤ 2 * ts.length) ∧ St w0 92 [(0, lv), (5, outv), (7, (.int .i64 ((i2 : Nat) : Int)))] [.row (α := At Ln) 219 outv out2] a_ w_) ((out.length - 0) + 1) ⟨0, out, (by omega), hX2, (by first | omega | grind), zout, hal, (by first | omega | grind), (h.sub ⟨rfl, rfl, rfl, trivial⟩)⟩ ?_
  clear h ac wo; rintro n2 ac wo ⟨i2, out2, hm2, hL2, hi2, zout2, hal2, hle2, h⟩
  obtain ⟨m2, rfl⟩ : ∃ m, n2 = m + 1 := ⟨n2 - 1, by omega⟩
  refine gz h <| gq fun K12 hK12 => gr fun K13 hK13 => g0 (aj rfl) rfl <| g0 (aj rfl) rfl ?_; clear h ac wo; intro ac wo h
  refine rd0 h (dy uu153 rfl (h.row_sl 0 rfl)) rfl <| g0 (dP rfl rfl) rfl <| gn hK13 ?_; clear h ac wo; intro ac wo h
  refine db h rfl (fun hc3 => ?_) (fun hc3 => ?_)
  ·
   have hd3 := of_decide_eq_true hc3
   refine gz h <| gS <| gx hK12 <| gq fun K14 hK14 => gB <| gr fun K15 hK15 => g0 (ak rfl) rfl <| gn hK15 <| gB ?_; clear h ac wo; intro ac wo h
   obtain ⟨X3, hX3⟩ : ∃ X, bI (fun s => cb l ts out i i2 out2 s.1 s.2) ((l.length - 0) + 1) (0, out2) = X := ⟨_, rfl⟩
   refine wp_loop_ghost (fun n_ a_ w_ => ∃ (k3 : Nat) (out3 : List (At Ln)), ((l.length - k3) < n_) ∧ (bI (fun s => cb l ts out i i2 out2 s.1 s.2) n_ (k3, out3) = X3) ∧ (k3 ≤ l.length) ∧ (All (SzAN 30) out3) ∧ (out3.length = out2.length) ∧ (Alt out3) ∧ St w0 92 [(0, lv), (5, outv), (7, (.int .i64 ((i2 : Nat) : Int))), (8, (.int .i64 ((k3 : Nat) : Int)))] [.row (α := At Ln) 219 outv out3] a_ w_) ((l.length - 0) + 1) ⟨0, out2, (by omega), hX3, (by first | omega | grind), zout2, rfl, hal2, (h.sub ⟨rfl, rfl, rfl, rfl, trivial⟩)⟩ ?_
   clear h ac wo; rintro n3 ac wo ⟨k3, out3, hm3, hL3, hk3, zout3, hl3, hal3, h⟩
   obtain ⟨m3, rfl⟩ : ∃ m, n3 = m + 1 := ⟨n3 - 1, by omega⟩
   refine gz h <| gq fun K16 hK16 => gr fun K17 hK17 => g0 (aj rfl) rfl <| g0 (aj rfl) rfl <| g0 (dy uu34 rfl hlv.sl) rfl <| g0 (dP rfl rfl) rfl <| gn hK17 ?_; clear h ac wo; intro ac wo h
   refine db h rfl (fun hc4 => ?_) (fun hc4 => ?_)
   ·
    have hd4 := of_decide_eq_true hc4
    refine dR ?_
    refine hK16 _ _ ?_
    refine cG fun K18 hK18 => ?_
    refine eR ?_
    refine cG fun K19 hK19 => ?_
    refine cj mixed [dv _, dv _, dv _, dv _, dv _, dv _, dv _, dv _, dv _, dw _ [0], dv _, dv _, dv _, dv _, dw _ [0], dv _, dv _, dv _, dv _, dw _ [0], dv _] [⟨_, []⟩] h rfl (by kernel_rfl) ⟨fun _ _ => om rfl, fun _ _ => om rfl, fun _ _ => az (cZ (i := k3) uu34 zz145 rfl rfl (hlv.nn (i := k3) (by first | omega | grind)) (by first | omega | grind)), fun _ _ => az (fs uu145 rfl zz55 rfl (hlv.nn (i := 0) (by first | omega | grind)) rfl rfl (k' := k3 * 36 + 0)), fun _ _ => az (d9 (k := 0) aa55 zz55 hlv (bd (by first | omega | grind)) rfl rfl rfl rfl (v := (vV ((gt l k3).iv))) rfl), fun _ _ => om rfl, fun _ _ => om rfl, fun _ _ => az (cZ (i := i2) uu153 zz219 rfl rfl (h.row_nn 0 rfl (by first | omega | grind)) (by first | omega | grind)), fun _ _ => az (fs uu219 rfl zz53 rfl (h.row_nn 0 rfl (by first | omega | grind)) rfl rfl (k' := i2 * 36 + 0)), fun _ _ => cK _ rfl rfl (cY (k := 0) aa53 zz53 (bd (by first | omega | grind)) rfl rfl rfl rfl (v := (vR ((gt out3 i2).frm))) rfl), fun _ _ => om rfl, fun _ _ => om rfl, fun _ _ => az (cZ (i := i2) uu153 zz219 rfl rfl (h.row_nn 0 rfl (by first | omega | grind)) (by first | omega | grind)), fun _ _ => az (fs uu219 rfl zz53 rfl (h.row_nn 0 rfl (by first | omega | grind)) rfl rfl (k' := i2 * 36 + 9)), fun _ _ => cK _ rfl rfl (cY (k := 9) aa53 zz53 (bd (by first | omega | grind)) rfl rfl rfl rfl (v := (vR ((gt out3 i2).til))) rfl), fun _ _ => om rfl, fun _ _ => om rfl, fun _ _ => az (cZ (i := i2) uu153 zz219 rfl rfl (h.row_nn 0 rfl (by first | omega | grind)) (by first | omega | grind)), fun _ _ => az (fs uu219 rfl zz4 rfl (h.row_nn 0 rfl (by first | omega | grind)) rfl rfl (k' := i2 * 36 + 18)), fun _ _ => cK _ rfl rfl (cY (k := 18) aa4 zz4 (bd (by first | omega | grind)) rfl rfl rfl rfl (v := (.bool ((gt out3 i2).gap))) rfl), fun _ _ => eC (dI (ck Tryz.call94 rfl) (kk (ik ((gt l k3).iv) ((gt out3 i2).frm) ((gt out3 i2).til) ((gt out3 i2).gap) (All.gt zl (cr _)).1 (All.gt zout3 (eV _)).1 (All.gt zout3 (eV _)).2.1))), trivial⟩ ?_
    clear h ac wo; intro ξ ac wo hφ h
    replace h : St w0 92 [(0, lv), (5, outv), (7, (.int .i64 ((i2 : Nat) : Int))), (8, (.int .i64 ((k3 : Nat) : Int))), (77, (.bool (aY ((gt l k3).iv) ((gt out3 i2).frm) ((gt out3 i2).til) ((gt out3 i2).gap))))] [.row (α := At Ln) 219 outv out3] ac wo := (h.pick [0] (by decide)).sub ⟨rfl, rfl, rfl, rfl, rfl, trivial⟩
    clear hφ ξ
    refine hK19 _ _ ?_
    refine db h rfl (fun hc5 => ?_) (fun hc5 => ?_)
    ·
     have hq5 := hc5; try simp at hq5
     refine gz h <| gR <| g0 (aj rfl) rfl <| g0 (aj rfl) rfl <| g0 (aj rfl) rfl <| g0 (aj rfl) rfl <| g0 (aj rfl) rfl <| g0 (aj rfl) rfl <| g0 (cZ (i := k3) uu34 zz145 rfl rfl (hlv.nn (i := k3) (by first | omega | grind)) (by first | omega | grind)) rfl <| g0 (fs uu145 rfl zz42 rfl (hlv.nn (i := 0) (by first | omega | grind)) rfl rfl (k' := k3 * 36 + 20)) rfl <| g0 (d9 (k := 20) aa42 zz42 hlv (bd (by first | omega | grind)) rfl rfl rfl rfl (v := (vN ((gt l k3).f))) rfl) rfl ?_; clear h ac wo; intro ac wo h
     refine rd0 h (cZ (i := i2) uu153 zz219 rfl rfl (h.row_nn 0 rfl (by first | omega | grind)) (by first | omega | grind)) rfl ?_; clear h ac wo; intro ac wo h
     refine rd0 h (fs uu219 rfl zz4 rfl (h.row_nn 0 rfl (by first | omega | grind)) rfl rfl (k' := i2 * 36 + 19)) rfl ?_; clear h ac wo; intro ac wo h
     refine up h 0 rfl (e7 (k := 19) (u' := (⟨(gt out3 i2).frm, (gt out3 i2).til, (gt out3 i2).gap, true, (gt out3 i2).f⟩ : At Ln)) zz4 (bd (by first | omega | grind)) rfl rfl rfl rfl rfl rfl rfl rfl) ?_; clear h ac wo; intro ac wo h
     refine rd0 h (cZ (i := i2) uu153 zz219 rfl rfl (h.row_nn 0 rfl (by first | omega | grind)) (by first | omega | grind)) rfl ?_; clear h ac wo; intro ac wo h
     refine rd0 h (fs uu219 rfl zz42 rfl (h.row_nn 0 rfl (by first | omega | grind)) rfl rfl (k' := i2 * 36 + 20)) rfl ?_; clear h ac wo; intro ac wo h
     refine up h 0 rfl (e7 (k := 20) (u' := (⟨(gt out3 i2).frm, (gt out3 i2).til, (gt out3 i2).gap, true, (gt l k3).f⟩ : At Ln)) zz42 (ib (by first | omega | grind)) rfl rfl rfl rfl rfl rfl rfl rfl) ?_; clear h ac wo; intro ac wo h
     replace h := h.rowEq 0 rfl (by rw [List.set_set] : _ = (out3.set i2 (⟨(gt out3 i2).frm, (gt out3 i2).til, (gt out3 i2).gap, true, (gt l k3).f⟩ : At Ln)))
     refine gz h <| gx (fun _ _ => bg) <| gN <| gx hK18 <| gR <| g0 (aj rfl) rfl <| g0 (bi rfl rfl (r := ((k3 + 1 : Nat) : Int)) (by rw [IntKind.wrap_i64]; first | omega | grind)) rfl <| g0 (ak rfl) rfl <| gx (fun _ _ => bg) ?_; clear h ac wo; intro ac wo h
     replace h := h.sub (F' := [(0, lv), (5, outv), (7, (.int .i64 ((i2 : Nat) : Int))), (8, (.int .i64 ((k3 + 1 : Nat) : Int)))]) ⟨rfl, rfl, rfl, rfl, trivial⟩
     exact aE ⟨m3, (by omega), _, _, (by first | omega | grind), bf hL3 (show cb l ts out i i2 out2 k3 out3 = .go _ from (Eq.trans (cT hc4) (cT hc5))), (by first | omega | grind), (All.set zout3 ⟨(All.gt zout3 (eV _)).1, (All.gt zout3 (eV _)).2.1, (All.gt zl (cr _)).2⟩), (by first | exact hl3 | (simp; exact hl3)), (by first | exact hal3.set rfl | exact hal3), (h.pick [0] (by decide)).sub ⟨rfl, rfl, rfl, rfl, trivial⟩⟩
    ·
     have hq5 := hc5; try simp at hq5
     refine gz h <| gS <| gN <| gx hK18 <| gR <| g0 (aj rfl) rfl <| g0 (bi rfl rfl (r := ((k3 + 1 : Nat) : Int)) (by rw [IntKind.wrap_i64]; first | omega | grind)) rfl <| g0 (ak rfl) rfl <| gx (fun _ _ => bg) ?_; clear h ac wo; intro ac wo h
     exact aE ⟨m3, (by omega), _, _, (by first | omega | grind), bf hL3 (show cb l ts out i i2 out2 k3 out3 = .go _ from (Eq.trans (cT hc4) (cF hc5))), (by first | omega | grind), zout3, (by first | exact hl3 | (simp; exact hl3)), (by first | exact hal3.set rfl | exact hal3), (h.pick [0] (by decide)).sub ⟨rfl, rfl, rfl, rfl, trivial⟩⟩
   ·
    have hd4 := of_decide_eq_false hc4
    refine dO ?_
    have hx3 := cJ hL3 (show cb l ts out i i2 out2 k3 out3 = .out (k3, out3) from (cF hc4))
    refine gz h <| gx hK14 <| gR <| g0 (aj rfl) rfl <| g0 (bi rfl rfl (r := ((i2 + 1 : Nat) : Int)) (by rw [IntKind.wrap_i64]; first | omega | grind)) rfl <| g0 (ak rfl) rfl <| gx (fun _ _ => bg) ?_; clear h ac wo; intro ac wo h
    exact aE ⟨m2, (by omega), _, _, (by first | omega | grind), bf hL2 (show co l ts out i i2 out2 = .go _ from (Eq.trans (cT hc3) (ee (hX3.trans hx3)))), (by first | omega | grind), zout3, hal3, (by first | omega | grind), (h.pick [0] (by decide)).sub ⟨rfl, rfl, rfl, trivial⟩⟩
  ·
   have hd3 := of_decide_eq_false hc3
   refine dO ?_
   have hx2 := cJ hL2 (show co l ts out i i2 out2 = .out (i2, out2) from (cF hc3))
   refine gz h <| gx hK10 <| gr fun K20 hK20 => g0 (aj rfl) rfl <| g0 (ak rfl) rfl <| gn hK20 <| gT ?_; clear h ac wo; intro ac wo h
   have hd : ca l ts = out2 := (Eq.trans (ee (hX1.trans hx1)) (ee (hX2.trans hx2)))
   exact ret h rfl (.tmp rfl .nil) rfl (by rw [hd]; exact h.retR 0 rfl ⟨zout2, ⟨hal2, by omega⟩⟩)
attribute [irreducible] ca
def js (a : List (U Ln)) (b : List (U Ln)) (i : Nat) : Bool :=
 true
def dl (a : List (U Ln)) (b : List (U Ln)) (i : Nat) : Nx Nat Bool :=
 bif (decide (((i : Nat) : Int) < ((a.length : Nat) : Int))) then
  bif ((!(decide ((gt a i).iv = (gt b i).iv))) || (!(bJ ((gt a i).f) ((gt b i).f)))) then
   .ret false
  else
   .go (i + 1)
 else
  .out i
def cC (a : List (U Ln)) (b : List (U Ln)) : Bool :=
 bif ((((a.length : Nat) : Int)) != (((b.length : Nat) : Int))) then
  false
 else
  fin (bI (fun s => dl a b s) ((a.length - 0) + 1) 0) (fun s => js a b s) (fun r => r)
theorem jr (a : List (U Ln)) (av : Value) (b : List (U Ln)) (bv : Value) (za : All (jX 20) a) (zb : All (jX 20) b) (w0 : World) (hav : View w0 av a) (hbv : View w0 bv b) : Calls Tryz.prog 24 #[(.iface 43 (.agg #[])), av, bv] w0 (eX w0 (.bool (cC a b)) (True)) := by
 refine enter (N := 48) (args := [(.iface 43 (.agg #[])), av, bv]) Tryz.func24 rfl rfl ?_; intro ac h
 have hlena := hav.len
 have hlenb := hbv.len
 refine eq fun K1 hK1 => ?_
 refine rd0 h (ak rfl) rfl <| gn hK1 <| gq fun K2 hK2 => gr fun K3 hK3 => g0 (aj rfl) rfl <| g0 (dy uu34 rfl hav.sl) rfl <| g0 (aj rfl) rfl <| g0 (dy uu34 rfl hbv.sl) rfl <| g0 (lQ rfl rfl (m := ((a.length : Nat) : Int)) (n := ((b.length : Nat) : Int))) rfl <| gn hK3 ?_; clear h ac; intro ac wo h
 refine db h rfl (fun hc1 => ?_) (fun hc1 => ?_)
 ·
  have hq1 := hc1; try simp at hq1
  refine gz h <| gr fun K4 hK4 => g0 (ak rfl) rfl <| gn hK4 <| gT ?_; clear h ac wo; intro ac wo h
  have hd : cC a b = false := (cT hc1)
  exact ret h rfl (.tmp rfl .nil) rfl (h.retP (by rw [hd] <;> rfl) trivial)
 ·
  have hq1 := hc1; try simp at hq1
  refine gz h <| gS <| gx hK2 <| gq fun K5 hK5 => gr fun K6 hK6 => g0 (ak rfl) rfl <| gn hK6 <| gB ?_; clear h ac wo; intro ac wo h
  obtain ⟨X1, hX1⟩ : ∃ X, bI (fun s => dl a b s) ((a.length - 0) + 1) 0 = X := ⟨_, rfl⟩
  refine wp_loop_ghost (fun n_ a_ w_ => ∃ (i : Nat), ((a.length - i) < n_) ∧ (bI (fun s => dl a b s) n_ i = X1) ∧ (i ≤ a.length) ∧ St w0 48 [(0, (.iface 43 (.agg #[]))), (1, av), (2, bv), (7, (.int .i64 ((i : Nat) : Int)))] [] a_ w_) ((a.length - 0) + 1) ⟨0, (by omega), hX1, (by first | omega | grind), (h.sub ⟨rfl, rfl, rfl, rfl, trivial⟩)⟩ ?_
  clear h ac wo; rintro n1 ac wo ⟨i, hm1, hL1, hi, h⟩
  obtain ⟨m1, rfl⟩ : ∃ m, n1 = m + 1 := ⟨n1 - 1, by omega⟩
  refine gz h <| gq fun K7 hK7 => gr fun K8 hK8 => g0 (aj rfl) rfl <| g0 (aj rfl) rfl <| g0 (dy uu34 rfl hav.sl) rfl <| g0 (dP rfl rfl) rfl <| gn hK8 ?_; clear h ac wo; intro ac wo h
  refine db h rfl (fun hc2 => ?_) (fun hc2 => ?_)
  ·
   have hd2 := of_decide_eq_true hc2
   refine dR ?_
   refine hK7 _ _ ?_
   refine cG fun K9 hK9 => ?_
   refine eR ?_
   refine cG fun K10 hK10 => ?_
   refine cj mixed [dv _, dv _, dv _, dv _, dv _, dv _, dv _, dv _, dv _, dv _, dv _, dv _, dv _, dv _, dv _, dv _, dv _, dv _, dv _, dv _, dv _, dv _, dv _, dv _, dv _, dv _, dv _, dv _, dv _] [] h rfl (by kernel_rfl) ⟨fun _ _ => om rfl, fun _ _ => om rfl, fun _ _ => az (cZ (i := i) uu34 zz145 rfl rfl (hav.nn (i := i) (by first | omega | grind)) (by first | omega | grind)), fun _ _ => az (fs uu145 rfl zz55 rfl (hav.nn (i := 0) (by first | omega | grind)) rfl rfl (k' := i * 36 + 0)), fun _ _ => az (d9 (k := 0) aa55 zz55 hav (bd (by first | omega | grind)) rfl rfl rfl rfl (v := (vV ((gt a i).iv))) rfl), fun _ _ => om rfl, fun _ _ => om rfl, fun _ _ => az (cZ (i := i) uu34 zz145 rfl rfl (hbv.nn (i := i) (by first | omega | grind)) (by first | omega | grind)), fun _ _ => az (fs uu145 rfl zz55 rfl (hbv.nn (i := 0) (by first | omega | grind)) rfl rfl (k' := i * 36 + 0)), fun _ _ => az (d9 (k := 0) aa55 zz55 hbv (bd (by first | omega | grind)) rfl rfl rfl rfl (v := (vV ((gt b i).iv))) rfl), fun _ _ => az (o7 eqp55 rfl rfl), fun _ _ => om rfl, fun _ _ => og2 rfl rfl rfl rfl (fun hg => Rd.step (aj rfl)), fun _ _ => og2 rfl rfl rfl rfl (fun hg => Rd.step (aj rfl)), fun _ _ => og2 rfl rfl rfl rfl (fun hg => Rd.step (aj rfl)), fun _ _ => og2 rfl rfl rfl rfl (fun hg => Rd.step (cZ (i := i) uu34 zz145 (ao rfl hg) (ao rfl hg) (hav.nn (i := i) (by first | omega | (simp at hg; omega) | grind)) (by first | omega | (simp at hg; omega) | grind))), fun _ _ => og2 rfl rfl rfl rfl (fun hg => Rd.step (fs uu145 rfl zz42 rfl (hav.nn (i := 0) (by first | omega | (simp at hg; omega) | grind)) (ao rfl hg) rfl (k' := i * 36 + 20))), fun _ _ => og2 rfl rfl rfl rfl (fun hg => Rd.step (d9 (k := 20) aa42 zz42 hav (bd (by first | omega | (simp at hg; omega) | grind)) (ao rfl hg) rfl rfl rfl (v := (vN ((gt a i).f))) rfl)), fun _ _ => og2 rfl rfl rfl rfl (fun hg => Rd.step (aj rfl)), fun _ _ => og2 rfl rfl rfl rfl (fun hg => Rd.step (aj rfl)), fun _ _ => og2 rfl rfl rfl rfl (fun hg => Rd.step (cZ (i := i) uu34 zz145 (ao rfl hg) (ao rfl hg) (hbv.nn (i := i) (by first | omega | (simp at hg; omega) | grind)) (by first | omega | (simp at hg; omega) | grind))), fun _ _ => og2 rfl rfl rfl rfl (fun hg => Rd.step (fs uu145 rfl zz42 rfl (hbv.nn (i := 0) (by first | omega | (simp at hg; omega) | grind)) (ao rfl hg) rfl (k' := i * 36 + 20))), fun _ _ => og2 rfl rfl rfl rfl (fun hg => Rd.step (d9 (k := 20) aa42 zz42 hbv (bd (by first | omega | (simp at hg; omega) | grind)) (ao rfl hg) rfl rfl rfl (v := (vN ((gt b i).f))) rfl)), fun _ _ => og2 rfl rfl rfl rfl (fun hg => Rd.step (cL (ao rfl hg))), fun _ _ => og2 rfl rfl rfl rfl (fun hg => Rd.step (fG (ao rfl hg) jM)), fun _ _ => og2 rfl rfl rfl rfl (fun hg => Rd.step (aj (ao rfl hg))), fun _ _ => og2 rfl rfl rfl rfl (fun hg => dI (fS kj Tryz.call34 (ao rfl hg) (aU (ao rfl hg) (aU (ao rfl hg) rfl))) (kk (fL ((gt a i).f) ((gt b i).f) (All.gt za (cr _)).2 (All.gt zb (cr _)).2))), fun _ _ => og2 rfl rfl rfl rfl (fun hg => Rd.step (er (ao rfl hg))), fun _ _ => az (r_or rfl (fun e => (ao rfl (notI e)))), trivial⟩ ?_
   clear h ac wo; intro ξ ac wo hφ h
   replace h : St w0 48 [(0, (.iface 43 (.agg #[]))), (1, av), (2, bv), (7, (.int .i64 ((i : Nat) : Int))), (47, (.bool ((!(decide ((gt a i).iv = (gt b i).iv))) || (!(bJ ((gt a i).f) ((gt b i).f))))))] [] ac wo := (h.pick [] (by decide)).sub ⟨rfl, rfl, rfl, rfl, rfl, trivial⟩
   clear hφ ξ
   refine hK10 _ _ ?_
   refine db h rfl (fun hc3 => ?_) (fun hc3 => ?_)
   ·
    have hq3 := hc3; try simp at hq3
    refine gz h <| gr fun K11 hK11 => g0 (ak rfl) rfl <| gn hK11 <| gT ?_; clear h ac wo; intro ac wo h
    have hr1 := jj hL1 (show dl a b i = .ret false from (Eq.trans (cT hc2) (cT hc3)))
    have hd : cC a b = false := (Eq.trans (cF hc1) (od (hX1.trans hr1)))
    exact ret h rfl (.tmp rfl .nil) rfl (h.retP (by rw [hd] <;> rfl) trivial)
   ·
    have hq3 := hc3; try simp at hq3
    refine gz h <| gS <| gN <| gx hK9 <| gR <| g0 (aj rfl) rfl <| g0 (bi rfl rfl (r := ((i + 1 : Nat) : Int)) (by rw [IntKind.wrap_i64]; first | omega | grind)) rfl <| g0 (ak rfl) rfl <| gx (fun _ _ => bg) ?_; clear h ac wo; intro ac wo h
    exact aE ⟨m1, (by omega), _, (by first | omega | grind), bf hL1 (show dl a b i = .go _ from (Eq.trans (cT hc2) (cF hc3))), (by first | omega | grind), (h.pick [] (by decide)).sub ⟨rfl, rfl, rfl, rfl, trivial⟩⟩
  ·
   have hd2 := of_decide_eq_false hc2
   refine dO ?_
   have hx1 := cJ hL1 (show dl a b i = .out i from (cF hc2))
   refine gz h <| gx hK5 <| gr fun K12 hK12 => g0 (ak rfl) rfl <| gn hK12 <| gT ?_; clear h ac wo; intro ac wo h
   have hd : cC a b = true := (Eq.trans (cF hc1) (ee (hX1.trans hx1)))
   exact ret h rfl (.tmp rfl .nil) rfl (h.retP (by rw [hd] <;> rfl) trivial)
attribute [irreducible] cC
def i7 (l : List (U Ln)) (by_ : Nat) (out : List (U Ln)) (i : Nat) : (List (U Ln)) :=
 out
def ce (l : List (U Ln)) (by_ : Nat) (out : List (U Ln)) (i : Nat) : Nx ((List (U Ln)) × Nat) (List (U Ln)) :=
 bif (decide (((i : Nat) : Int) < ((l.length : Nat) : Int))) then
  .go (([(gt l ((i + by_) % l.length))] ++ out), (i + 1))
 else
  .out (out, i)
def ax (l : List (U Ln)) (by_ : Nat) : (List (U Ln)) :=
 fin (bI (fun s => ce l by_ s.1 s.2) ((l.length - 0) + 1) ([], 0)) (fun s => i7 l by_ s.1 s.2) (fun r => r)
theorem fW (l : List (U Ln)) (lv : Value) (by_ : Nat) (hl : l.length ≤ 1000) (hb : by_ < 256) (zl : All (jX 30) l) (w0 : World) (hlv : View w0 lv l) : Calls Tryz.prog 20 #[lv, (.int .u8 ((by_ : Nat) : Int))] w0 (RetR w0 145 (ax l by_) (All (jX 30) (ax l by_) ∧ (ax l by_).length = l.length)) := by
 refine enter (N := 27) (args := [lv, (.int .u8 ((by_ : Nat) : Int))]) Tryz.func20 rfl rfl ?_; intro ac h
 have hlenl := hlv.len
 refine eq fun K1 hK1 => ?_
 refine rd0 h (ak rfl) rfl <| gn hK1 <| gr fun K2 hK2 => g0 (ak rfl) rfl <| gn hK2 <| gq fun K3 hK3 => gr fun K4 hK4 => g0 (ak rfl) rfl <| gn hK4 <| gB ?_; clear h ac; intro ac wo h
 replace h := h.nilRow (α := U Ln) 145
 obtain ⟨X1, hX1⟩ : ∃ X, bI (fun s => ce l by_ s.1 s.2) ((l.length - 0) + 1) ([], 0) = X := ⟨_, rfl⟩
 refine wp_loop_ghost (fun n_ a_ w_ => ∃ (out : List (U Ln)) (i : Nat) (outv : Value), ((l.length - i) < n_) ∧ (bI (fun s => ce l by_ s.1 s.2) n_ (out, i) = X1) ∧ (i ≤ l.length) ∧ (All (jX 30) out) ∧ (out.length = i) ∧ St w0 27 [(0, lv), (1, (.int .u8 ((by_ : Nat) : Int))), (5, outv), (6, (.int .i64 ((i : Nat) : Int)))] [.row (α := U Ln) 145 outv out] a_ w_) ((l.length - 0) + 1) ⟨[], 0, (.slice none 0 0), (by omega), hX1, (by first | omega | grind), All.nil, (by first | omega | grind), (h.sub ⟨rfl, rfl, rfl, rfl, trivial⟩)⟩ ?_
 clear h ac wo; rintro n1 ac wo ⟨out, i, outv, hm1, hL1, hi, zout, hol, h⟩
 obtain ⟨m1, rfl⟩ : ∃ m, n1 = m + 1 := ⟨n1 - 1, by omega⟩
 refine gz h <| gq fun K5 hK5 => gr fun K6 hK6 => g0 (aj rfl) rfl <| g0 (aj rfl) rfl <| g0 (dy uu34 rfl hlv.sl) rfl <| g0 (dP rfl rfl) rfl <| gn hK6 ?_; clear h ac wo; intro ac wo h
 refine db h rfl (fun hc1 => ?_) (fun hc1 => ?_)
 ·
  have hd1 := of_decide_eq_true hc1
  refine dR ?_
  refine hK5 _ _ ?_
  refine cG fun K7 hK7 => ?_
  refine eR ?_
  refine c_r ?_
  have hmod : (i + by_) % l.length < l.length := Nat.mod_lt _ (by omega)
  refine rd0 h (aj rfl) rfl <| g0 (aj rfl) rfl <| g0 (aj rfl) rfl <| g0 (bo Tryz.runUnderlying5 Tryz.runUnderlying3 rfl (r := ((by_ : Nat) : Int)) (by rw [IntKind.wrap_i64]; first | omega | grind)) rfl <| g0 (bi rfl rfl (r := ((i + by_ : Nat) : Int)) (by rw [IntKind.wrap_i64]; first | omega | grind)) rfl <| g0 (aj rfl) rfl <| g0 (dy uu34 rfl hlv.sl) rfl <| g0 (im rfl rfl (r := ((((i + by_) % l.length) : Nat) : Int)) (by first | decide | omega) (by rw [Int.tmod_eq_emod_of_nonneg (by omega)]; rfl)) rfl <| g0 (cZ (i := ((i + by_) % l.length)) uu34 zz145 rfl rfl (hlv.nn (i := ((i + by_) % l.length)) (by first | omega | grind)) (by first | omega | grind)) rfl <| g0 (d9 (k := 0) aa145 zz145 hlv (bd (by first | omega | grind)) rfl (Nat.add_zero _) rfl rfl (v := (vUN (gt l ((i + by_) % l.length)))) rfl) rfl ?_; clear h ac wo; intro ac wo h
  refine nw h (bF (α := U Ln) (xs := [.tmp 22]) (vs := [(vUN (gt l ((i + by_) % l.length)))]) [(gt l ((i + by_) % l.length))] gg rfl rfl rfl (by decide)) rfl ?_; clear h ac wo; intro sv2 ac wo nnsv2 h
  refine rd0 h (aj rfl) rfl ?_; clear h ac wo; intro ac wo h
  refine on2 h 0 0 rfl rfl (dD (xs := [(gt l ((i + by_) % l.length))]) (ys := out) gg (fun w hs => (row_view hs 0 rfl)) rfl rfl (by first | omega | grind)) rfl ?_; clear h ac wo; intro sv3 ac wo apsv3 h
  refine rd0 h (ak rfl) rfl <| gx (fun _ _ => bg) ?_; clear h ac wo; intro ac wo h
  replace h := h.sub (F' := [(0, lv), (1, (.int .u8 ((by_ : Nat) : Int))), (5, sv3), (6, (.int .i64 ((i : Nat) : Int)))]) ⟨rfl, rfl, rfl, rfl, trivial⟩
  refine gz h <| gN <| gx hK7 <| gR <| g0 (aj rfl) rfl <| g0 (bi rfl rfl (r := ((i + 1 : Nat) : Int)) (by rw [IntKind.wrap_i64]; first | omega | grind)) rfl <| g0 (ak rfl) rfl <| gx (fun _ _ => bg) ?_; clear h ac wo; intro ac wo h
  exact aE ⟨m1, (by omega), _, _, _, (by first | omega | grind), bf hL1 (show ce l by_ out i = .go _ from (cT hc1)), (by first | omega | grind), (All.app (All.cons (All.gt zl (cr _)) All.nil) zout), (by first | omega | grind), (h.pick [0] (by decide)).sub ⟨rfl, rfl, rfl, rfl, trivial⟩⟩
 ·
  have hd1 := of_decide_eq_false hc1
  refine dO ?_
  have hx1 := cJ hL1 (show ce l by_ out i = .out (out, i) from (cF hc1))
  refine gz h <| gx hK3 <| gr fun K8 hK8 => g0 (aj rfl) rfl <| g0 (ak rfl) rfl <| gn hK8 <| gT ?_; clear h ac wo; intro ac wo h
  have hd : ax l by_ = out := (ee (hX1.trans hx1))
  exact ret h rfl (.tmp rfl .nil) rfl (by rw [hd]; exact h.retR 0 rfl ⟨zout, (by first | omega | grind)⟩)
attribute [irreducible] ax
def iu (l : List (U Qd)) (out : List (U Ln)) (i : Nat) : (List (U Ln)) :=
 out
def dm (l : List (U Qd)) (out : List (U Ln)) (i : Nat) : Nx ((List (U Ln)) × Nat) (List (U Ln)) :=
 bif (decide (((i : Nat) : Int) < ((l.length : Nat) : Int))) then
  .go ((out ++ [(⟨(gt l i).iv, (⟨((gt l i).f).c0, ((gt l i).f).c1, ((gt l i).f).c2, ((gt l i).f).c1⟩ : Ln)⟩ : U Ln)]), (i + 1))
 else
  .out (out, i)
def aC (l : List (U Qd)) : (List (U Ln)) :=
 fin (bI (fun s => dm l s.1 s.2) ((l.length - 0) + 1) ([], 0)) (fun s => iu l s.1 s.2) (fun r => r)
theorem ft (l : List (U Qd)) (lv : Value) (hl : l.length ≤ 1000) (zl : All (ll 30) l) (w0 : World) (hlv : View w0 lv l) : Calls Tryz.prog 21 #[lv] w0 (RetR w0 145 (aC l) (All (jX 30) (aC l) ∧ (aC l).length = l.length)) := by
 refine enter (N := 36) (args := [lv]) Tryz.func21 rfl rfl ?_; intro ac h
 have hlenl := hlv.len
 refine eq fun K1 hK1 => ?_
 refine rd0 h (ak rfl) rfl <| gn hK1 <| gr fun K2 hK2 => g0 (ak rfl) rfl <| gn hK2 <| gq fun K3 hK3 => gr fun K4 hK4 => g0 (ak rfl) rfl <| gn hK4 <| gB ?_; clear h ac; intro ac wo h
 replace h := h.nilRow (α := U Ln) 145
 obtain ⟨X1, hX1⟩ : ∃ X, bI (fun s => dm l s.1 s.2) ((l.length - 0) + 1) ([], 0) = X := ⟨_, rfl⟩
 refine wp_loop_ghost (fun n_ a_ w_ => ∃ (out : List (U Ln)) (i : Nat) (outv : Value), ((l.length - i) < n_) ∧ (bI (fun s => dm l s.1 s.2) n_ (out, i) = X1) ∧ (i ≤ l.length) ∧ (All (jX 30) out) ∧ (out.length = i) ∧ St w0 36 [(0, lv), (3, outv), (4, (.int .i64 ((i : Nat) : Int)))] [.row (α := U Ln) 145 outv out] a_ w_) ((l.length - 0) + 1) ⟨[], 0, (.slice none 0 0), (by omega), hX1, (by first | omega | grind), All.nil, (by first | omega | grind), (h.sub ⟨rfl, rfl, rfl, trivial⟩)⟩ ?_
 clear h ac wo; rintro n1 ac wo ⟨out, i, outv, hm1, hL1, hi, zout, hol, h⟩
 obtain ⟨m1, rfl⟩ : ∃ m, n1 = m + 1 := ⟨n1 - 1, by omega⟩
 refine gz h <| gq fun K5 hK5 => gr fun K6 hK6 => g0 (aj rfl) rfl <| g0 (aj rfl) rfl <| g0 (dy uu24 rfl hlv.sl) rfl <| g0 (dP rfl rfl) rfl <| gn hK6 ?_; clear h ac wo; intro ac wo h
 refine db h rfl (fun hc1 => ?_) (fun hc1 => ?_)
 ·
  have hd1 := of_decide_eq_true hc1
  refine gz h <| gS <| gx hK5 <| gq fun K7 hK7 => gB <| gr fun K8 hK8 => g0 (aj rfl) rfl <| g0 (aj rfl) rfl <| g0 (cZ (i := i) uu24 Tryz.sizeOf87 rfl rfl (hlv.nn (i := i) (by first | omega | grind)) (by first | omega | grind)) rfl <| g0 (fs uu87 rfl zz69 rfl (hlv.nn (i := 0) (by first | omega | grind)) rfl rfl (k' := i * 32 + 20)) rfl <| g0 (d9 (k := 20) aa69 zz69 hlv (bd (by first | omega | grind)) rfl rfl rfl rfl (v := (vD ((gt l i).f))) rfl) rfl <| ga (cD oD) vv69 rfl rfl fun b1 => gs 0 (cD ((gt l i).f)) rfl zz69 rfl rfl rfl rfl rfl rfl rfl <| gn hK8 ?_; clear h ac wo; intro ac wo h
  replace h := h.emps 1
  refine cj mixed [dv _, dv _, dv _, dv _, dv _, dv _, dv _, dw _ [0], dv _, dw _ [0], dv _, dw _ [0], dv _, dw _ [0], dv _, dv _, ⟨.nd (.one 16 fun v => NN v 1), [2]⟩, ⟨.nd (.con True), [1, 2]⟩, ⟨.nd (.two 18 17 fun a b => a = b), []⟩] [⟨_, []⟩, ⟨.row (α := U Ln) 145 outv out, [(17, .one 17 fun v => .row (α := U Ln) 145 v (out ++ [(⟨(gt l i).iv, (⟨((gt l i).f).c0, ((gt l i).f).c1, ((gt l i).f).c2, ((gt l i).f).c1⟩ : Ln)⟩ : U Ln)]))]⟩, ⟨.emp, [(16, .one 16 fun v => .row (α := U Ln) 145 v ([(⟨(gt l i).iv, (⟨((gt l i).f).c0, ((gt l i).f).c1, ((gt l i).f).c2, ((gt l i).f).c1⟩ : Ln)⟩ : U Ln)]))]⟩] h rfl (by kernel_rfl) ⟨fun _ _ => om rfl, fun _ _ => om rfl, fun _ _ => om rfl, fun _ _ => az (cZ (i := i) uu24 Tryz.sizeOf87 rfl rfl (hlv.nn (i := i) (by first | omega | grind)) (by first | omega | grind)), fun _ _ => az (fs uu87 rfl zz55 rfl (hlv.nn (i := 0) (by first | omega | grind)) rfl rfl (k' := i * 32 + 0)), fun _ _ => az (d9 (k := 0) aa55 zz55 hlv (bd (by first | omega | grind)) rfl rfl rfl rfl (v := (vV ((gt l i).iv))) rfl), fun _ _ => az (fa uu69 rfl zz40 rfl rfl rfl (k' := 0)), fun _ _ => cK _ rfl rfl (aV aa40 zz40 rfl rfl rfl (v := (vQ (((gt l i).f).c0))) rfl), fun _ _ => az (fa uu69 rfl zz40 rfl rfl rfl (k' := 4)), fun _ _ => cK _ rfl rfl (aV aa40 zz40 rfl rfl rfl (v := (vQ (((gt l i).f).c1))) rfl), fun _ _ => az (fa uu69 rfl zz40 rfl rfl rfl (k' := 8)), fun _ _ => cK _ rfl rfl (aV aa40 zz40 rfl rfl rfl (v := (vQ (((gt l i).f).c2))) rfl), fun _ _ => az (fa uu69 rfl zz40 rfl rfl rfl (k' := 4)), fun _ _ => cK _ rfl rfl (aV aa40 zz40 rfl rfl rfl (v := (vQ (((gt l i).f).c1))) rfl), fun _ _ => az (bq bld42 rfl rfl (v := (vN (⟨((gt l i).f).c0, ((gt l i).f).c1, ((gt l i).f).c2, ((gt l i).f).c1⟩ : Ln))) rfl), fun _ _ => az (bq lM rfl rfl (v := (vUN (⟨(gt l i).iv, (⟨((gt l i).f).c0, ((gt l i).f).c1, ((gt l i).f).c2, ((gt l i).f).c1⟩ : Ln)⟩ : U Ln))) rfl), fun _ _ => kh (ψ := fun v => NN v 1) (B := fun v => [.row (α := U Ln) 145 v ([(⟨(gt l i).iv, (⟨((gt l i).f).c0, ((gt l i).f).c1, ((gt l i).f).c2, ((gt l i).f).c1⟩ : Ln)⟩ : U Ln)])]) [.emp] rfl (fun v _ => by simp only [eB, bn] <;> rfl) (fun v hv => by simpa [DF.one, bn] using hv) (jI (bF (α := U Ln) (xs := [.tmp 32]) (vs := [(vUN (⟨(gt l i).iv, (⟨((gt l i).f).c0, ((gt l i).f).c1, ((gt l i).f).c2, ((gt l i).f).c1⟩ : Ln)⟩ : U Ln))]) [(⟨(gt l i).iv, (⟨((gt l i).f).c0, ((gt l i).f).c1, ((gt l i).f).c2, ((gt l i).f).c1⟩ : Ln)⟩ : U Ln)] gg rfl rfl rfl (by decide))), fun ξ hφ => kh (B := fun v => [.row (α := U Ln) 145 v (out ++ [(⟨(gt l i).iv, (⟨((gt l i).f).c0, ((gt l i).f).c1, ((gt l i).f).c2, ((gt l i).f).c1⟩ : Ln)⟩ : U Ln)]), .row (α := U Ln) 145 (ξ 16) ([(⟨(gt l i).iv, (⟨((gt l i).f).c0, ((gt l i).f).c1, ((gt l i).f).c2, ((gt l i).f).c1⟩ : Ln)⟩ : U Ln)])]) [.row (α := U Ln) 145 outv out, .row (α := U Ln) 145 (ξ 16) ([(⟨(gt l i).iv, (⟨((gt l i).f).c0, ((gt l i).f).c1, ((gt l i).f).c2, ((gt l i).f).c1⟩ : Ln)⟩ : U Ln)])] rfl (fun v _ => by simp only [eB, bn] <;> rfl) (fun _ _ => trivial) (dD (xs := out) (ys := [(⟨(gt l i).iv, (⟨((gt l i).f).c0, ((gt l i).f).c1, ((gt l i).f).c2, ((gt l i).f).c1⟩ : Ln)⟩ : U Ln)]) gg (fun w hs => (row_view hs 0 rfl)) rfl rfl (by first | omega | grind)), fun ξ hφ => qk (φ := .two 18 17 fun a b => a = b) (v := ξ 17) [] rfl rfl (by show upd ξ 18 (ξ 17) 18 = upd ξ 18 (ξ 17) 17; rw [bn, g8 (by decide)]) (ak rfl), trivial⟩ ?_
  clear h ac wo; intro ξ ac wo hφ h
  replace h : St w0 36 [(0, lv), (3, ξ 18), (4, (.int .i64 ((i : Nat) : Int)))] [.blk b1 (cD ((gt l i).f)) 69, .row (α := U Ln) 145 (ξ 17) (out ++ [(⟨(gt l i).iv, (⟨((gt l i).f).c0, ((gt l i).f).c1, ((gt l i).f).c2, ((gt l i).f).c1⟩ : Ln)⟩ : U Ln)])] ac wo := (h.pick [0, 1] (by decide)).sub ⟨rfl, rfl, rfl, trivial⟩
  rw [show ξ 18 = ξ 17 from hφ 18] at h
  generalize hsv17 : ξ 17 = sv2 at h; clear hsv17
  clear hφ ξ
  refine gz h <| gN <| gx hK7 <| gR <| g0 (aj rfl) rfl <| g0 (bi rfl rfl (r := ((i + 1 : Nat) : Int)) (by rw [IntKind.wrap_i64]; first | omega | grind)) rfl <| g0 (ak rfl) rfl <| gx (fun _ _ => bg) ?_; clear h ac wo; intro ac wo h
  exact aE ⟨m1, (by omega), _, _, _, (by first | omega | grind), bf hL1 (show dm l out i = .go _ from (cT hc1)), (by first | omega | grind), (All.app zout (All.cons ⟨(All.gt zl (cB _)).1, ⟨((All.gt zl (cB _)).2).1, ((All.gt zl (cB _)).2).2.1, ((All.gt zl (cB _)).2).2.2, ((All.gt zl (cB _)).2).2.1⟩⟩ All.nil)), (by first | omega | grind), (h.pick [1] (by decide)).sub ⟨rfl, rfl, rfl, trivial⟩⟩
 ·
  have hd1 := of_decide_eq_false hc1
  refine dO ?_
  have hx1 := cJ hL1 (show dm l out i = .out (out, i) from (cF hc1))
  refine gz h <| gx hK3 <| gr fun K9 hK9 => g0 (aj rfl) rfl <| g0 (ak rfl) rfl <| gn hK9 <| gT ?_; clear h ac wo; intro ac wo h
  have hd : aC l = out := (ee (hX1.trans hx1))
  exact ret h rfl (.tmp rfl .nil) rfl (by rw [hd]; exact h.retR 0 rfl ⟨zout, (by first | omega | grind)⟩)
attribute [irreducible] aC
def bh (s : List (U Ln)) : (List (U Ln)) := s
theorem eO (s : List (U Ln)) (sv : Value) (hl : s.length ≤ 1000) (zs : All (jX 30) s) (w0 : World) (hsv : View w0 sv s) : Calls Tryz.prog 151 #[sv] w0 (RetR w0 145 (bh s) (All (jX 30) (bh s) ∧ (bh s) = s ∧ (bh s).length = s.length)) := by
 refine enter (N := 8) (args := [sv]) Tryz.func151 rfl rfl ?_; intro ac h
 have hlens := hsv.len
 refine eq fun K1 hK1 => ?_
 refine rd0 h (ak rfl) rfl <| gn hK1 <| gq fun K2 hK2 => gr fun K3 hK3 => g0 (aj rfl) rfl <| g0 (oM nn34 hsv.sl rfl) rfl <| gn hK3 ?_; clear h ac; intro ac wo h
 refine db h rfl (fun hc1 => ?_) (fun hc1 => ?_)
 ·
  have hq1 := hc1; try simp at hq1
  refine gz h <| gr fun K4 hK4 => g0 (ak rfl) rfl <| gn hK4 <| gT ?_; clear h ac wo; intro ac wo h
  replace h := h.nilRow (α := U Ln) 145
  have hd : bh s = [] := (hsv.nil hc1).1
  exact ret h rfl (.tmp rfl .nil) rfl (by rw [hd]; exact h.retR 0 rfl ⟨All.nil, ⟨(hsv.nil hc1).1.symm, by rw [(hsv.nil hc1).1]⟩⟩)
 ·
  have hq1 := hc1; try simp at hq1
  refine dR ?_
  refine hK2 _ _ ?_
  refine eq fun K5 hK5 => ?_
  refine nw h (bF (α := U Ln) (xs := []) (vs := []) [] gg rfl rfl rfl (by decide)) rfl ?_; clear h ac wo; intro sv2 ac wo nnsv2 h
  refine rd0 h (aj rfl) rfl ?_; clear h ac wo; intro ac wo h
  refine on1 h 0 rfl (qw (xs := []) (ys := s) gg hsv rfl rfl (by first | omega | grind)) rfl ?_; clear h ac wo; intro sv3 ac wo apsv3 h
  refine rd0 h (ak rfl) rfl <| gn hK5 <| gT ?_; clear h ac wo; intro ac wo h
  exact ret h rfl (.tmp rfl .nil) rfl (by unfold bh; exact h.retR 0 rfl ⟨(All.app All.nil zs), ⟨rfl, rfl⟩⟩)
attribute [irreducible] bh
def aW (i : Iv) : Int :=
 bif i.openLo then
  1
 else
  0
theorem eG (i : Iv) (zi : SzV 30 i) (w0 : World)  : Calls Tryz.prog 154 #[(vV i)] w0 (eX w0 (.int .i64 (aW i)) ((-1 ≤ (aW i) ∧ (aW i) ≤ 1))) := by
 refine enter (N := 5) (args := [(vV i)]) Tryz.func154 rfl rfl ?_; intro ac h
 refine eq fun K1 hK1 => ?_
 refine bx h (cV i) rfl rfl rfl fun b1 => g0 (ak rfl) rfl <| gn hK1 <| gq fun K2 hK2 => gr fun K3 hK3 => g0 (fa uu55 rfl zz4 rfl rfl rfl (k' := 18)) rfl <| g1 0 rfl (aV aa4 zz4 rfl rfl rfl (v := (.bool i.openLo)) rfl) rfl <| gn hK3 ?_; clear h ac; intro ac wo h
 refine db h rfl (fun hc1 => ?_) (fun hc1 => ?_)
 ·
  have hq1 := hc1; try simp at hq1
  refine gz h <| gr fun K4 hK4 => g0 (ak rfl) rfl <| gn hK4 <| gT ?_; clear h ac wo; intro ac wo h
  have hd : aW i = 1 := (cT hc1)
  exact ret h rfl (.tmp rfl .nil) rfl (h.retP (by rw [hd] <;> rfl) (by rw [hd]; exact (by first | omega | grind)))
 ·
  have hq1 := hc1; try simp at hq1
  refine gz h <| gS <| gx hK2 <| gr fun K5 hK5 => g0 (ak rfl) rfl <| gn hK5 <| gT ?_; clear h ac wo; intro ac wo h
  have hd : aW i = 0 := (cF hc1)
  exact ret h rfl (.tmp rfl .nil) rfl (h.retP (by rw [hd] <;> rfl) (by rw [hd]; exact (by first | omega | grind)))
attribute [irreducible] aW
def eA (l : List (U Ln)) (t : GR) : Bool :=
 (((decide (((l.length : Nat) : Int) > 0)) && (decide (((gt l (l.length - 1)).iv).hi = t))) && (!((gt l (l.length - 1)).iv).openHi))
theorem iT (l : List (U Ln)) (lv : Value) (t : GR) (zl : All (jX 20) l) (zt : SzR 30 t) (w0 : World) (hlv : View w0 lv l) : Calls Tryz.prog 87 #[lv, (vR t)] w0 (eX w0 (.bool (eA l t)) (True)) := by
 refine enter (N := 31) (args := [lv, (vR t)]) Tryz.func87 rfl rfl ?_; intro ac h
 have hlenl := hlv.len
 refine eq fun K1 hK1 => ?_
 refine bx h (cR t) rfl rfl rfl fun b1 => g0 (ak rfl) rfl <| gn hK1 <| gr fun K2 hK2 => g0 (aj rfl) rfl <| g0 (dy uu34 rfl hlv.sl) rfl <| g0 (ak rfl) rfl <| gn hK2 <| gq fun K3 hK3 => ?_; clear h ac; intro ac wo h
 refine cj mixed [dv _, dv _, dv _, dv _, dv _, dv _, dv _, dv _, dv _, dv _, dw _ [0], dv _, dv _, dv _, dv _, dv _, dv _, dv _, dv _, dv _, dv _, dv _, dv _, dv _] [⟨_, []⟩] h rfl (by kernel_rfl) ⟨fun _ _ => om rfl, fun _ _ => az (iK rfl rfl), fun _ _ => om rfl, fun _ _ => oh rfl rfl rfl rfl (fun hg => aj rfl), fun _ _ => oh rfl rfl rfl rfl (fun hg => aj rfl), fun _ _ => oh rfl rfl rfl rfl (fun hg => dk (ao rfl hg) rfl (r := (((l.length - 1) : Nat) : Int)) (by rw [IntKind.wrap_i64]; first | omega | (simp at hg; omega) | grind)), fun _ _ => oh rfl rfl rfl rfl (fun hg => cZ (i := (l.length - 1)) uu34 zz145 (ao rfl hg) (ao rfl hg) (hlv.nn (i := (l.length - 1)) (by first | omega | (simp at hg; omega) | grind)) (by first | omega | (simp at hg; omega) | grind)), fun _ _ => oh rfl rfl rfl rfl (fun hg => dh uu145 rfl zz55 (by decide) (hlv.nn (i := 0) (by first | omega | (simp at hg; omega) | grind)) (ao rfl hg) rfl (k' := (l.length - 1) * 36 + 0)), fun _ _ => oh rfl rfl rfl rfl (fun hg => dh uu55 rfl zz53 (by decide) (hlv.nn (i := 0) (by first | omega | (simp at hg; omega) | grind)) (ao rfl hg) (by first | rfl | (simp only [Nat.add_assoc] <;> rfl)) (k' := (l.length - 1) * 36 + 9)), fun _ _ => oh rfl rfl rfl rfl (fun hg => d9 (k := 9) aa53 zz53 hlv (bd (by first | omega | (simp at hg; omega) | grind)) (ao rfl hg) rfl rfl rfl (v := (vR (((gt l (l.length - 1)).iv).hi))) rfl), fun _ _ => oh rfl rfl rfl rfl (fun hg => aV aa53 zz53 rfl rfl rfl (v := (vR t)) rfl), fun _ _ => oh rfl rfl rfl rfl (fun hg => eY jT (ao rfl hg) (ao rfl hg)), fun _ _ => az (da rfl (fun e => (ao rfl e))), fun _ _ => om rfl, fun _ _ => oh rfl rfl rfl rfl (fun hg => aj rfl), fun _ _ => oh rfl rfl rfl rfl (fun hg => aj rfl), fun _ _ => oh rfl rfl rfl rfl (fun hg => dk (ao rfl hg) rfl (r := (((l.length - 1) : Nat) : Int)) (by rw [IntKind.wrap_i64]; first | omega | (simp at hg; omega) | grind)), fun _ _ => oh rfl rfl rfl rfl (fun hg => cZ (i := (l.length - 1)) uu34 zz145 (ao rfl hg) (ao rfl hg) (hlv.nn (i := (l.length - 1)) (by first | omega | (simp at hg; omega) | grind)) (by first | omega | (simp at hg; omega) | grind)), fun _ _ => oh rfl rfl rfl rfl (fun hg => dh uu145 rfl zz55 (by decide) (hlv.nn (i := 0) (by first | omega | (simp at hg; omega) | grind)) (ao rfl hg) rfl (k' := (l.length - 1) * 36 + 0)), fun _ _ => oh rfl rfl rfl rfl (fun hg => dh uu55 rfl zz4 (by decide) (hlv.nn (i := 0) (by first | omega | (simp at hg; omega) | grind)) (ao rfl hg) (by first | rfl | (simp only [Nat.add_assoc] <;> rfl)) (k' := (l.length - 1) * 36 + 19)), fun _ _ => oh rfl rfl rfl rfl (fun hg => d9 (k := 19) aa4 zz4 hlv (bd (by first | omega | (simp at hg; omega) | grind)) (ao rfl hg) rfl rfl rfl (v := (.bool (((gt l (l.length - 1)).iv).openHi))) rfl), fun _ _ => oh rfl rfl rfl rfl (fun hg => er (ao rfl hg)), fun _ _ => az (da rfl (fun e => (ao rfl e))), fun _ _ => az (ak rfl), trivial⟩ ?_
 clear h ac wo; intro ξ ac wo hφ h
 replace h : St w0 31 [(4, (.bool (((decide (((l.length : Nat) : Int) > 0)) && (decide (((gt l (l.length - 1)).iv).hi = t))) && (!((gt l (l.length - 1)).iv).openHi))))] [.blk b1 (cR t) 53] ac wo := (h.pick [0] (by decide)).sub ⟨rfl, trivial⟩
 clear hφ ξ
 refine hK3 _ _ ?_
 refine fU ?_
 exact ret h rfl (.tmp rfl .nil) rfl (h.retP (by unfold eA; rfl) trivial)
attribute [irreducible] eA
def f5 (l : List (U Ln)) (x10 : Nat) (out : List (U Ln)) : (List (U Ln)) :=
 out
def bY (l : List (U Ln)) (x10 : Nat) (out : List (U Ln)) : Nx (Nat × (List (U Ln))) (List (U Ln)) :=
 bif (decide (((x10 : Nat) : Int) < ((l.length : Nat) : Int))) then
  bif (!((gt l x10).iv).openLo) then
   bif (aI ((gt l x10).iv)) then
    .go ((x10 + 1), (out ++ [(⟨(⟨((gt l x10).iv).lo, ((gt l x10).iv).lo, false, false⟩ : Iv), (gt l x10).f⟩ : U Ln)]))
   else
    bif (!((gt l x10).iv).openHi) then
     .go ((x10 + 1), (((out ++ [(⟨(⟨((gt l x10).iv).lo, ((gt l x10).iv).lo, false, false⟩ : Iv), (gt l x10).f⟩ : U Ln)]) ++ [(⟨(⟨((gt l x10).iv).lo, ((gt l x10).iv).hi, true, true⟩ : Iv), (gt l x10).f⟩ : U Ln)]) ++ [(⟨(⟨((gt l x10).iv).hi, ((gt l x10).iv).hi, false, false⟩ : Iv), (gt l x10).f⟩ : U Ln)]))
    else
     .go ((x10 + 1), ((out ++ [(⟨(⟨((gt l x10).iv).lo, ((gt l x10).iv).lo, false, false⟩ : Iv), (gt l x10).f⟩ : U Ln)]) ++ [(⟨(⟨((gt l x10).iv).lo, ((gt l x10).iv).hi, true, true⟩ : Iv), (gt l x10).f⟩ : U Ln)]))
  else
   bif (aI ((gt l x10).iv)) then
    .go ((x10 + 1), out)
   else
    bif (!((gt l x10).iv).openHi) then
     .go ((x10 + 1), ((out ++ [(⟨(⟨((gt l x10).iv).lo, ((gt l x10).iv).hi, true, true⟩ : Iv), (gt l x10).f⟩ : U Ln)]) ++ [(⟨(⟨((gt l x10).iv).hi, ((gt l x10).iv).hi, false, false⟩ : Iv), (gt l x10).f⟩ : U Ln)]))
    else
     .go ((x10 + 1), (out ++ [(⟨(⟨((gt l x10).iv).lo, ((gt l x10).iv).hi, true, true⟩ : Iv), (gt l x10).f⟩ : U Ln)]))
 else
  .out (x10, out)
def ae (l : List (U Ln)) : (List (U Ln)) :=
 fin (bI (fun s => bY l s.1 s.2) ((l.length - 0) + 1) (0, [])) (fun s => f5 l s.1 s.2) (fun r => r)
theorem iB (l : List (U Ln)) (lv : Value) (hl : l.length ≤ 1000) (zl : All (jX 30) l) (w0 : World) (hlv : View w0 lv l) : Calls Tryz.prog 86 #[lv] w0 (RetR w0 145 (ae l) (All (jX 30) (ae l) ∧ (ae l).length ≤ 3 * l.length)) := by
 refine enter (N := 54) (args := [lv]) Tryz.func86 rfl rfl ?_; intro ac h
 have hlenl := hlv.len
 refine eq fun K1 hK1 => ?_
 refine rd0 h (ak rfl) rfl <| gn hK1 <| gr fun K2 hK2 => ga [.slice none 0 0] Tryz.zeroValue34 rfl rfl fun b1 => gn hK2 <| gr fun K3 hK3 => g0 (ls rfl) rfl <| g0 (ak rfl) rfl <| gn hK3 <| gq fun K4 hK4 => gr fun K5 hK5 => g0 (aj rfl) rfl <| g0 (dy uu34 rfl hlv.sl) rfl <| g0 (aj rfl) rfl <| gn hK5 <| gB ?_; clear h ac; intro ac wo h
 replace h := h.nilRow (α := U Ln) 145
 obtain ⟨X1, hX1⟩ : ∃ X, bI (fun s => bY l s.1 s.2) ((l.length - 0) + 1) (0, []) = X := ⟨_, rfl⟩
 refine wp_loop_ghost (fun n_ a_ w_ => ∃ (x10 : Nat) (out : List (U Ln)) (outv : Value), ((l.length - x10) < n_) ∧ (bI (fun s => bY l s.1 s.2) n_ (x10, out) = X1) ∧ (x10 ≤ l.length) ∧ (All (jX 30) out) ∧ (out.length ≤ 3 * x10) ∧ St w0 54 [(3, (ptr b1 0)), (4, (.func (.func 155) #[] #[(ptr b1 0)])), (8, lv), (9, (.int .i64 ((l.length : Nat) : Int))), (10, (.int .i64 ((x10 : Nat) : Int)))] [.row (α := U Ln) 145 outv out, .blk b1 [outv] 34] a_ w_) ((l.length - 0) + 1) ⟨0, [], (.slice none 0 0), (by omega), hX1, (by first | omega | grind), All.nil, (by first | omega | grind), (h.sub ⟨rfl, rfl, rfl, rfl, rfl, trivial⟩)⟩ ?_
 clear h ac wo; rintro n1 ac wo ⟨x10, out, outv, hm1, hL1, hx10, zout, hol, h⟩
 obtain ⟨m1, rfl⟩ : ∃ m, n1 = m + 1 := ⟨n1 - 1, by omega⟩
 refine gz h <| gr fun K6 hK6 => g0 (dP rfl rfl) rfl <| gn hK6 <| gq fun K7 hK7 => ?_; clear h ac wo; intro ac wo h
 refine db h rfl (fun hc1 => ?_) (fun hc1 => ?_)
 ·
  have hd1 := of_decide_eq_true hc1
  refine gz h <| gS <| gx hK7 <| gq fun K8 hK8 => gB <| gr fun K9 hK9 => g0 (cZ (i := x10) uu34 zz145 rfl rfl (hlv.nn (i := x10) (by first | omega | grind)) (by first | omega | grind)) rfl <| g0 (d9 (k := 0) aa145 zz145 hlv (bd (by first | omega | grind)) rfl (Nat.add_zero _) rfl rfl (v := (vUN (gt l x10))) rfl) rfl <| ga (cUN (⟨(⟨(⟨oQ, oQ, false⟩ : GR), (⟨oQ, oQ, false⟩ : GR), false, false⟩ : Iv), (⟨oQ, oQ, oQ, oQ⟩ : Ln)⟩ : U Ln)) Tryz.zeroValue145 rfl rfl fun b2 => gs 0 (cUN (gt l x10)) rfl zz145 rfl rfl rfl rfl rfl rfl rfl <| gn hK9 <| gq fun K10 hK10 => gr fun K11 hK11 => g0 (fa uu145 rfl zz55 rfl rfl rfl (k' := 0)) rfl <| g0 (fa uu55 rfl zz4 rfl rfl rfl (k' := 18)) rfl <| g1 0 rfl (aV aa4 zz4 rfl rfl rfl (v := (.bool (((gt l x10).iv).openLo))) rfl) rfl <| g0 (er rfl) rfl <| gn hK11 ?_; clear h ac wo; intro ac wo h
  refine db h rfl (fun hc2 => ?_) (fun hc2 => ?_)
  ·
   have hq2 := hc2; try simp at hq2
   refine gz h <| gR <| g0 (aj rfl) rfl <| g0 (fa uu145 rfl zz55 rfl rfl rfl (k' := 0)) rfl <| g0 (fa uu55 rfl zz53 rfl rfl rfl (k' := 0)) rfl <| g1 0 rfl (aV aa53 zz53 rfl rfl rfl (v := (vR (((gt l x10).iv).lo))) rfl) rfl <| g0 (fa uu145 rfl zz42 rfl rfl rfl (k' := 20)) rfl <| g1 0 rfl (aV aa42 zz42 rfl rfl rfl (v := (vN ((gt l x10).f))) rfl) rfl ?_; clear h ac wo; intro ac wo h
   refine inl (vs := [(vR (((gt l x10).iv).lo)), (vN ((gt l x10).f)), (ptr b1 0)]) (M := 13) h (j8 (vs := [(vR (((gt l x10).iv).lo)), (vN ((gt l x10).f))]) (cap := [(ptr b1 0)]) cc155 rfl rfl) Tryz.func155 rfl rfl rfl ?_
   clear h ac; intro R1 hR1 ac h
   refine gz h <| gr fun K12 hK12 => gb (cR (((gt l x10).iv).lo)) rfl rfl rfl fun b3 => gb (cN ((gt l x10).f)) rfl rfl rfl fun b4 => gn hK12 <| gR <| g1 4 rfl (aV aa34 zz34 rfl rfl rfl (v := outv) rfl) rfl <| g1 1 rfl (aV aa53 zz53 rfl rfl rfl (v := (vR (((gt l x10).iv).lo))) rfl) rfl <| g1 1 rfl (aV aa53 zz53 rfl rfl rfl (v := (vR (((gt l x10).iv).lo))) rfl) rfl <| g0 (bq jb rfl rfl (v := (vV (⟨((gt l x10).iv).lo, ((gt l x10).iv).lo, false, false⟩ : Iv))) rfl) rfl <| g1 0 rfl (aV aa42 zz42 rfl rfl rfl (v := (vN ((gt l x10).f))) rfl) rfl <| g0 (bq lM rfl rfl (v := (vUN (⟨(⟨((gt l x10).iv).lo, ((gt l x10).iv).lo, false, false⟩ : Iv), (gt l x10).f⟩ : U Ln))) rfl) rfl ?_; clear h ac wo; intro ac wo h
   refine nw h (bF (α := U Ln) (xs := [.tmp 10]) (vs := [(vUN (⟨(⟨((gt l x10).iv).lo, ((gt l x10).iv).lo, false, false⟩ : Iv), (gt l x10).f⟩ : U Ln))]) [(⟨(⟨((gt l x10).iv).lo, ((gt l x10).iv).lo, false, false⟩ : Iv), (gt l x10).f⟩ : U Ln)] gg rfl rfl rfl (by decide)) rfl ?_; clear h ac wo; intro sv2 ac wo nnsv2 h
   refine on2 h 4 0 rfl rfl (dD (xs := out) (ys := [(⟨(⟨((gt l x10).iv).lo, ((gt l x10).iv).lo, false, false⟩ : Iv), (gt l x10).f⟩ : U Ln)]) gg (fun w hs => (row_view hs 0 rfl)) rfl rfl (by first | omega | grind)) rfl ?_; clear h ac wo; intro sv3 ac wo apsv3 h
   refine st h 5 [sv3] rfl zz34 rfl rfl (fA (h.row_sl 0 rfl)) rfl (iQ (h.row_sl 0 rfl)) rfl rfl <| gx (fun _ _ => bg) ?_; clear h ac wo; intro ac wo h
   refine nK (rs := []) (vs := []) h rfl .nil rfl (hR1 _ _ _ h.bel h.sep ?_)
   clear h ac hR1; intro ac h
   refine gz h <| gn hK10 <| gq fun K13 hK13 => gr fun K14 hK14 => g0 (fa uu145 rfl zz55 rfl rfl rfl (k' := 0)) rfl <| g1 4 rfl (aV aa55 zz55 rfl rfl rfl (v := (vV ((gt l x10).iv))) rfl) rfl <| gc (ck Tryz.call83 rfl) (kk (bN ((gt l x10).iv))) rfl <| gn hK14 ?_; clear h ac wo; intro ac wo h
   replace h := h.sub (F' := [(3, (ptr b1 0)), (4, (.func (.func 155) #[] #[(ptr b1 0)])), (8, lv), (9, (.int .i64 ((l.length : Nat) : Int))), (10, (.int .i64 ((x10 : Nat) : Int))), (6, (ptr b2 0)), (27, (.bool (aI ((gt l x10).iv))))]) ⟨rfl, rfl, rfl, rfl, rfl, rfl, rfl, trivial⟩
   refine db h rfl (fun hc3 => ?_) (fun hc3 => ?_)
   ·
    have hq3 := hc3; try simp at hq3
    refine gz h <| gE <| gx hK8 <| gR <| g0 (bi rfl rfl (r := ((x10 + 1 : Nat) : Int)) (by rw [IntKind.wrap_i64]; first | omega | grind)) rfl <| g0 (aj rfl) rfl <| gx (fun _ _ => bg) ?_; clear h ac wo; intro ac wo h
    exact aE ⟨m1, (by omega), _, _, _, (by first | omega | grind), bf hL1 (show bY l x10 out = .go _ from (Eq.trans (cT hc1) (Eq.trans (cT hc2) (cT hc3)))), (by first | omega | grind), (All.app zout (All.cons ⟨⟨((All.gt zl (cr _)).1).1, ((All.gt zl (cr _)).1).1⟩, (All.gt zl (cr _)).2⟩ All.nil)), (by first | omega | grind), (h.pick [0, 5] (by decide)).sub ⟨rfl, rfl, rfl, rfl, rfl, trivial⟩⟩
   ·
    have hq3 := hc3; try simp at hq3
    refine gz h <| gS <| gx hK13 <| gr fun K15 hK15 => g1 5 rfl (aV aa34 zz34 rfl rfl rfl (v := sv3) rfl) rfl <| g0 (fa uu145 rfl zz55 rfl rfl rfl (k' := 0)) rfl <| g0 (fa uu55 rfl zz53 rfl rfl rfl (k' := 0)) rfl <| g1 4 rfl (aV aa53 zz53 rfl rfl rfl (v := (vR (((gt l x10).iv).lo))) rfl) rfl <| g0 (fa uu145 rfl zz55 rfl rfl rfl (k' := 0)) rfl <| g0 (fa uu55 rfl zz53 rfl rfl rfl (k' := 9)) rfl <| g1 4 rfl (aV aa53 zz53 rfl rfl rfl (v := (vR (((gt l x10).iv).hi))) rfl) rfl <| g0 (bq jb rfl rfl (v := (vV (⟨((gt l x10).iv).lo, ((gt l x10).iv).hi, true, true⟩ : Iv))) rfl) rfl <| g0 (fa uu145 rfl zz42 rfl rfl rfl (k' := 20)) rfl <| g1 4 rfl (aV aa42 zz42 rfl rfl rfl (v := (vN ((gt l x10).f))) rfl) rfl <| g0 (bq lM rfl rfl (v := (vUN (⟨(⟨((gt l x10).iv).lo, ((gt l x10).iv).hi, true, true⟩ : Iv), (gt l x10).f⟩ : U Ln))) rfl) rfl ?_; clear h ac wo; intro ac wo h
    refine nw h (bF (α := U Ln) (xs := [.tmp 38]) (vs := [(vUN (⟨(⟨((gt l x10).iv).lo, ((gt l x10).iv).hi, true, true⟩ : Iv), (gt l x10).f⟩ : U Ln))]) [(⟨(⟨((gt l x10).iv).lo, ((gt l x10).iv).hi, true, true⟩ : Iv), (gt l x10).f⟩ : U Ln)] gg rfl rfl rfl (by decide)) rfl ?_; clear h ac wo; intro sv4 ac wo nnsv4 h
    refine on2 h 1 0 rfl rfl (dD (xs := (out ++ [(⟨(⟨((gt l x10).iv).lo, ((gt l x10).iv).lo, false, false⟩ : Iv), (gt l x10).f⟩ : U Ln)])) (ys := [(⟨(⟨((gt l x10).iv).lo, ((gt l x10).iv).hi, true, true⟩ : Iv), (gt l x10).f⟩ : U Ln)]) gg (fun w hs => (row_view hs 0 rfl)) rfl rfl (by first | omega | grind)) rfl ?_; clear h ac wo; intro sv5 ac wo apsv5 h
    refine st h 6 [sv5] rfl zz34 rfl rfl (fA (h.row_sl 0 rfl)) rfl (iQ (h.row_sl 0 rfl)) rfl rfl <| gn hK15 <| gr fun K16 hK16 => g0 (fa uu145 rfl zz55 rfl rfl rfl (k' := 0)) rfl <| g0 (fa uu55 rfl zz4 rfl rfl rfl (k' := 19)) rfl <| g1 5 rfl (aV aa4 zz4 rfl rfl rfl (v := (.bool (((gt l x10).iv).openHi))) rfl) rfl <| g0 (er rfl) rfl <| gn hK16 ?_; clear h ac wo; intro ac wo h
    replace h := h.sub (F' := [(3, (ptr b1 0)), (4, (.func (.func 155) #[] #[(ptr b1 0)])), (8, lv), (9, (.int .i64 ((l.length : Nat) : Int))), (10, (.int .i64 ((x10 : Nat) : Int))), (6, (ptr b2 0)), (44, (.bool (!((gt l x10).iv).openHi)))]) ⟨rfl, rfl, rfl, rfl, rfl, rfl, rfl, trivial⟩
    refine db h rfl (fun hc4 => ?_) (fun hc4 => ?_)
    ·
     have hq4 := hc4; try simp at hq4
     refine gz h <| gR <| g0 (aj rfl) rfl <| g0 (fa uu145 rfl zz55 rfl rfl rfl (k' := 0)) rfl <| g0 (fa uu55 rfl zz53 rfl rfl rfl (k' := 9)) rfl <| g1 5 rfl (aV aa53 zz53 rfl rfl rfl (v := (vR (((gt l x10).iv).hi))) rfl) rfl <| g0 (fa uu145 rfl zz42 rfl rfl rfl (k' := 20)) rfl <| g1 5 rfl (aV aa42 zz42 rfl rfl rfl (v := (vN ((gt l x10).f))) rfl) rfl ?_; clear h ac wo; intro ac wo h
     refine inl (vs := [(vR (((gt l x10).iv).hi)), (vN ((gt l x10).f)), (ptr b1 0)]) (M := 13) h (j8 (vs := [(vR (((gt l x10).iv).hi)), (vN ((gt l x10).f))]) (cap := [(ptr b1 0)]) cc155 rfl rfl) Tryz.func155 rfl rfl rfl ?_
     clear h ac; intro R2 hR2 ac h
     refine gz h <| gr fun K17 hK17 => gb (cR (((gt l x10).iv).hi)) rfl rfl rfl fun b5 => gb (cN ((gt l x10).f)) rfl rfl rfl fun b6 => gn hK17 <| gR <| g1 8 rfl (aV aa34 zz34 rfl rfl rfl (v := sv5) rfl) rfl <| g1 1 rfl (aV aa53 zz53 rfl rfl rfl (v := (vR (((gt l x10).iv).hi))) rfl) rfl <| g1 1 rfl (aV aa53 zz53 rfl rfl rfl (v := (vR (((gt l x10).iv).hi))) rfl) rfl <| g0 (bq jb rfl rfl (v := (vV (⟨((gt l x10).iv).hi, ((gt l x10).iv).hi, false, false⟩ : Iv))) rfl) rfl <| g1 0 rfl (aV aa42 zz42 rfl rfl rfl (v := (vN ((gt l x10).f))) rfl) rfl <| g0 (bq lM rfl rfl (v := (vUN (⟨(⟨((gt l x10).iv).hi, ((gt l x10).iv).hi, false, false⟩ : Iv), (gt l x10).f⟩ : U Ln))) rfl) rfl ?_; clear h ac wo; intro ac wo h
     refine nw h (bF (α := U Ln) (xs := [.tmp 10]) (vs := [(vUN (⟨(⟨((gt l x10).iv).hi, ((gt l x10).iv).hi, false, false⟩ : Iv), (gt l x10).f⟩ : U Ln))]) [(⟨(⟨((gt l x10).iv).hi, ((gt l x10).iv).hi, false, false⟩ : Iv), (gt l x10).f⟩ : U Ln)] gg rfl rfl rfl (by decide)) rfl ?_; clear h ac wo; intro sv6 ac wo nnsv6 h
     refine on2 h 3 0 rfl rfl (dD (xs := ((out ++ [(⟨(⟨((gt l x10).iv).lo, ((gt l x10).iv).lo, false, false⟩ : Iv), (gt l x10).f⟩ : U Ln)]) ++ [(⟨(⟨((gt l x10).iv).lo, ((gt l x10).iv).hi, true, true⟩ : Iv), (gt l x10).f⟩ : U Ln)])) (ys := [(⟨(⟨((gt l x10).iv).hi, ((gt l x10).iv).hi, false, false⟩ : Iv), (gt l x10).f⟩ : U Ln)]) gg (fun w hs => (row_view hs 0 rfl)) rfl rfl (by first | omega | grind)) rfl ?_; clear h ac wo; intro sv7 ac wo apsv7 h
     refine st h 9 [sv7] rfl zz34 rfl rfl (fA (h.row_sl 0 rfl)) rfl (iQ (h.row_sl 0 rfl)) rfl rfl <| gx (fun _ _ => bg) ?_; clear h ac wo; intro ac wo h
     refine nK (rs := []) (vs := []) h rfl .nil rfl (hR2 _ _ _ h.bel h.sep ?_)
     clear h ac hR2; intro ac h
     refine gz h <| gx (fun _ _ => bg) <| gN <| gx hK8 <| gR <| g0 (bi rfl rfl (r := ((x10 + 1 : Nat) : Int)) (by rw [IntKind.wrap_i64]; first | omega | grind)) rfl <| g0 (aj rfl) rfl <| gx (fun _ _ => bg) ?_; clear h ac wo; intro ac wo h
     exact aE ⟨m1, (by omega), _, _, _, (by first | omega | grind), bf hL1 (show bY l x10 out = .go _ from (Eq.trans (cT hc1) (Eq.trans (cT hc2) (Eq.trans (cF hc3) (cT hc4))))), (by first | omega | grind), (All.app (All.app (All.app zout (All.cons ⟨⟨((All.gt zl (cr _)).1).1, ((All.gt zl (cr _)).1).1⟩, (All.gt zl (cr _)).2⟩ All.nil)) (All.cons ⟨⟨((All.gt zl (cr _)).1).1, ((All.gt zl (cr _)).1).2⟩, (All.gt zl (cr _)).2⟩ All.nil)) (All.cons ⟨⟨((All.gt zl (cr _)).1).2, ((All.gt zl (cr _)).1).2⟩, (All.gt zl (cr _)).2⟩ All.nil)), (by first | omega | grind), (h.pick [0, 9] (by decide)).sub ⟨rfl, rfl, rfl, rfl, rfl, trivial⟩⟩
    ·
     have hq4 := hc4; try simp at hq4
     refine gz h <| gS <| gN <| gx hK8 <| gR <| g0 (bi rfl rfl (r := ((x10 + 1 : Nat) : Int)) (by rw [IntKind.wrap_i64]; first | omega | grind)) rfl <| g0 (aj rfl) rfl <| gx (fun _ _ => bg) ?_; clear h ac wo; intro ac wo h
     exact aE ⟨m1, (by omega), _, _, _, (by first | omega | grind), bf hL1 (show bY l x10 out = .go _ from (Eq.trans (cT hc1) (Eq.trans (cT hc2) (Eq.trans (cF hc3) (cF hc4))))), (by first | omega | grind), (All.app (All.app zout (All.cons ⟨⟨((All.gt zl (cr _)).1).1, ((All.gt zl (cr _)).1).1⟩, (All.gt zl (cr _)).2⟩ All.nil)) (All.cons ⟨⟨((All.gt zl (cr _)).1).1, ((All.gt zl (cr _)).1).2⟩, (All.gt zl (cr _)).2⟩ All.nil)), (by first | omega | grind), (h.pick [0, 6] (by decide)).sub ⟨rfl, rfl, rfl, rfl, rfl, trivial⟩⟩
  ·
   have hq2 := hc2; try simp at hq2
   refine gz h <| gS <| gx hK10 <| gq fun K18 hK18 => gr fun K19 hK19 => g0 (fa uu145 rfl zz55 rfl rfl rfl (k' := 0)) rfl <| g1 0 rfl (aV aa55 zz55 rfl rfl rfl (v := (vV ((gt l x10).iv))) rfl) rfl <| gc (ck Tryz.call83 rfl) (kk (bN ((gt l x10).iv))) rfl <| gn hK19 ?_; clear h ac wo; intro ac wo h
   refine db h rfl (fun hc5 => ?_) (fun hc5 => ?_)
   ·
    have hq5 := hc5; try simp at hq5
    refine gz h <| gE <| gx hK8 <| gR <| g0 (bi rfl rfl (r := ((x10 + 1 : Nat) : Int)) (by rw [IntKind.wrap_i64]; first | omega | grind)) rfl <| g0 (aj rfl) rfl <| gx (fun _ _ => bg) ?_; clear h ac wo; intro ac wo h
    exact aE ⟨m1, (by omega), _, _, _, (by first | omega | grind), bf hL1 (show bY l x10 out = .go _ from (Eq.trans (cT hc1) (Eq.trans (cF hc2) (cT hc5)))), (by first | omega | grind), zout, (by first | omega | grind), (h.pick [1, 2] (by decide)).sub ⟨rfl, rfl, rfl, rfl, rfl, trivial⟩⟩
   ·
    have hq5 := hc5; try simp at hq5
    refine gz h <| gS <| gx hK18 <| gr fun K20 hK20 => g1 2 rfl (aV aa34 zz34 rfl rfl rfl (v := outv) rfl) rfl <| g0 (fa uu145 rfl zz55 rfl rfl rfl (k' := 0)) rfl <| g0 (fa uu55 rfl zz53 rfl rfl rfl (k' := 0)) rfl <| g1 0 rfl (aV aa53 zz53 rfl rfl rfl (v := (vR (((gt l x10).iv).lo))) rfl) rfl <| g0 (fa uu145 rfl zz55 rfl rfl rfl (k' := 0)) rfl <| g0 (fa uu55 rfl zz53 rfl rfl rfl (k' := 9)) rfl <| g1 0 rfl (aV aa53 zz53 rfl rfl rfl (v := (vR (((gt l x10).iv).hi))) rfl) rfl <| g0 (bq jb rfl rfl (v := (vV (⟨((gt l x10).iv).lo, ((gt l x10).iv).hi, true, true⟩ : Iv))) rfl) rfl <| g0 (fa uu145 rfl zz42 rfl rfl rfl (k' := 20)) rfl <| g1 0 rfl (aV aa42 zz42 rfl rfl rfl (v := (vN ((gt l x10).f))) rfl) rfl <| g0 (bq lM rfl rfl (v := (vUN (⟨(⟨((gt l x10).iv).lo, ((gt l x10).iv).hi, true, true⟩ : Iv), (gt l x10).f⟩ : U Ln))) rfl) rfl ?_; clear h ac wo; intro ac wo h
    refine nw h (bF (α := U Ln) (xs := [.tmp 38]) (vs := [(vUN (⟨(⟨((gt l x10).iv).lo, ((gt l x10).iv).hi, true, true⟩ : Iv), (gt l x10).f⟩ : U Ln))]) [(⟨(⟨((gt l x10).iv).lo, ((gt l x10).iv).hi, true, true⟩ : Iv), (gt l x10).f⟩ : U Ln)] gg rfl rfl rfl (by decide)) rfl ?_; clear h ac wo; intro sv8 ac wo nnsv8 h
    refine on2 h 2 0 rfl rfl (dD (xs := out) (ys := [(⟨(⟨((gt l x10).iv).lo, ((gt l x10).iv).hi, true, true⟩ : Iv), (gt l x10).f⟩ : U Ln)]) gg (fun w hs => (row_view hs 0 rfl)) rfl rfl (by first | omega | grind)) rfl ?_; clear h ac wo; intro sv9 ac wo apsv9 h
    refine st h 3 [sv9] rfl zz34 rfl rfl (fA (h.row_sl 0 rfl)) rfl (iQ (h.row_sl 0 rfl)) rfl rfl <| gn hK20 ?_; clear h ac wo; intro ac wo h
    replace h := h.sub (F' := [(3, (ptr b1 0)), (4, (.func (.func 155) #[] #[(ptr b1 0)])), (8, lv), (9, (.int .i64 ((l.length : Nat) : Int))), (10, (.int .i64 ((x10 : Nat) : Int))), (6, (ptr b2 0))]) ⟨rfl, rfl, rfl, rfl, rfl, rfl, trivial⟩
    refine gz h <| gr fun K21 hK21 => g0 (fa uu145 rfl zz55 rfl rfl rfl (k' := 0)) rfl <| g0 (fa uu55 rfl zz4 rfl rfl rfl (k' := 19)) rfl <| g1 2 rfl (aV aa4 zz4 rfl rfl rfl (v := (.bool (((gt l x10).iv).openHi))) rfl) rfl <| g0 (er rfl) rfl <| gn hK21 ?_; clear h ac wo; intro ac wo h
    refine db h rfl (fun hc6 => ?_) (fun hc6 => ?_)
    ·
     have hq6 := hc6; try simp at hq6
     refine gz h <| gR <| g0 (aj rfl) rfl <| g0 (fa uu145 rfl zz55 rfl rfl rfl (k' := 0)) rfl <| g0 (fa uu55 rfl zz53 rfl rfl rfl (k' := 9)) rfl <| g1 2 rfl (aV aa53 zz53 rfl rfl rfl (v := (vR (((gt l x10).iv).hi))) rfl) rfl <| g0 (fa uu145 rfl zz42 rfl rfl rfl (k' := 20)) rfl <| g1 2 rfl (aV aa42 zz42 rfl rfl rfl (v := (vN ((gt l x10).f))) rfl) rfl ?_; clear h ac wo; intro ac wo h
     refine inl (vs := [(vR (((gt l x10).iv).hi)), (vN ((gt l x10).f)), (ptr b1 0)]) (M := 13) h (j8 (vs := [(vR (((gt l x10).iv).hi)), (vN ((gt l x10).f))]) (cap := [(ptr b1 0)]) cc155 rfl rfl) Tryz.func155 rfl rfl rfl ?_
     clear h ac; intro R3 hR3 ac h
     refine gz h <| gr fun K22 hK22 => gb (cR (((gt l x10).iv).hi)) rfl rfl rfl fun b7 => gb (cN ((gt l x10).f)) rfl rfl rfl fun b8 => gn hK22 <| gR <| g1 5 rfl (aV aa34 zz34 rfl rfl rfl (v := sv9) rfl) rfl <| g1 1 rfl (aV aa53 zz53 rfl rfl rfl (v := (vR (((gt l x10).iv).hi))) rfl) rfl <| g1 1 rfl (aV aa53 zz53 rfl rfl rfl (v := (vR (((gt l x10).iv).hi))) rfl) rfl <| g0 (bq jb rfl rfl (v := (vV (⟨((gt l x10).iv).hi, ((gt l x10).iv).hi, false, false⟩ : Iv))) rfl) rfl <| g1 0 rfl (aV aa42 zz42 rfl rfl rfl (v := (vN ((gt l x10).f))) rfl) rfl <| g0 (bq lM rfl rfl (v := (vUN (⟨(⟨((gt l x10).iv).hi, ((gt l x10).iv).hi, false, false⟩ : Iv), (gt l x10).f⟩ : U Ln))) rfl) rfl ?_; clear h ac wo; intro ac wo h
     refine nw h (bF (α := U Ln) (xs := [.tmp 10]) (vs := [(vUN (⟨(⟨((gt l x10).iv).hi, ((gt l x10).iv).hi, false, false⟩ : Iv), (gt l x10).f⟩ : U Ln))]) [(⟨(⟨((gt l x10).iv).hi, ((gt l x10).iv).hi, false, false⟩ : Iv), (gt l x10).f⟩ : U Ln)] gg rfl rfl rfl (by decide)) rfl ?_; clear h ac wo; intro sv10 ac wo nnsv10 h
     refine on2 h 3 0 rfl rfl (dD (xs := (out ++ [(⟨(⟨((gt l x10).iv).lo, ((gt l x10).iv).hi, true, true⟩ : Iv), (gt l x10).f⟩ : U Ln)])) (ys := [(⟨(⟨((gt l x10).iv).hi, ((gt l x10).iv).hi, false, false⟩ : Iv), (gt l x10).f⟩ : U Ln)]) gg (fun w hs => (row_view hs 0 rfl)) rfl rfl (by first | omega | grind)) rfl ?_; clear h ac wo; intro sv11 ac wo apsv11 h
     refine st h 6 [sv11] rfl zz34 rfl rfl (fA (h.row_sl 0 rfl)) rfl (iQ (h.row_sl 0 rfl)) rfl rfl <| gx (fun _ _ => bg) ?_; clear h ac wo; intro ac wo h
     refine nK (rs := []) (vs := []) h rfl .nil rfl (hR3 _ _ _ h.bel h.sep ?_)
     clear h ac hR3; intro ac h
     refine gz h <| gx (fun _ _ => bg) <| gN <| gx hK8 <| gR <| g0 (bi rfl rfl (r := ((x10 + 1 : Nat) : Int)) (by rw [IntKind.wrap_i64]; first | omega | grind)) rfl <| g0 (aj rfl) rfl <| gx (fun _ _ => bg) ?_; clear h ac wo; intro ac wo h
     exact aE ⟨m1, (by omega), _, _, _, (by first | omega | grind), bf hL1 (show bY l x10 out = .go _ from (Eq.trans (cT hc1) (Eq.trans (cF hc2) (Eq.trans (cF hc5) (cT hc6))))), (by first | omega | grind), (All.app (All.app zout (All.cons ⟨⟨((All.gt zl (cr _)).1).1, ((All.gt zl (cr _)).1).2⟩, (All.gt zl (cr _)).2⟩ All.nil)) (All.cons ⟨⟨((All.gt zl (cr _)).1).2, ((All.gt zl (cr _)).1).2⟩, (All.gt zl (cr _)).2⟩ All.nil)), (by first | omega | grind), (h.pick [0, 6] (by decide)).sub ⟨rfl, rfl, rfl, rfl, rfl, trivial⟩⟩
    ·
     have hq6 := hc6; try simp at hq6
     refine gz h <| gS <| gN <| gx hK8 <| gR <| g0 (bi rfl rfl (r := ((x10 + 1 : Nat) : Int)) (by rw [IntKind.wrap_i64]; first | omega | grind)) rfl <| g0 (aj rfl) rfl <| gx (fun _ _ => bg) ?_; clear h ac wo; intro ac wo h
     exact aE ⟨m1, (by omega), _, _, _, (by first | omega | grind), bf hL1 (show bY l x10 out = .go _ from (Eq.trans (cT hc1) (Eq.trans (cF hc2) (Eq.trans (cF hc5) (cF hc6))))), (by first | omega | grind), (All.app zout (All.cons ⟨⟨((All.gt zl (cr _)).1).1, ((All.gt zl (cr _)).1).2⟩, (All.gt zl (cr _)).2⟩ All.nil)), (by first | omega | grind), (h.pick [0, 3] (by decide)).sub ⟨rfl, rfl, rfl, rfl, rfl, trivial⟩⟩
 ·
  have hd1 := of_decide_eq_false hc1
  refine dO ?_
  have hx1 := cJ hL1 (show bY l x10 out = .out (x10, out) from (cF hc1))
  refine gz h <| gx hK4 <| gr fun K23 hK23 => g1 1 rfl (aV aa34 zz34 rfl rfl rfl (v := outv) rfl) rfl <| g0 (ak rfl) rfl <| gn hK23 <| gT ?_; clear h ac wo; intro ac wo h
  have hd : ae l = out := (ee (hX1.trans hx1))
  exact ret h rfl (.tmp rfl .nil) rfl (by rw [hd]; exact h.retR 0 rfl ⟨zout, (by first | omega | grind)⟩)
attribute [irreducible] ae
def dU (a : U Ln) (b : U Ln) : Int :=
 (jC ([(aF a.iv.lo b.iv.lo), (du (aW a.iv) (aW b.iv)), (aF a.iv.hi b.iv.hi)]))
theorem jL (a : U Ln) (b : U Ln) (za : jX 30 a) (zb : jX 30 b) (w0 : World)  : Calls Tryz.prog 153 #[(vUN a), (vUN b)] w0 (eX w0 (.int .i64 (dU a b)) (True)) := by
 refine enter (N := 31) (args := [(vUN a), (vUN b)]) Tryz.func153 rfl rfl ?_; intro ac h
 have p2 := aJ ((ch a.iv.lo b.iv.lo 10 (by omega) za.1.1 zb.1.1) w0)
 refine eq fun K1 hK1 => ?_
 refine bx h (cUN a) rfl rfl rfl fun b1 => gb (cUN b) rfl rfl rfl fun b2 => g0 (ak rfl) rfl <| gn hK1 <| gr fun K2 hK2 => g0 (ak rfl) rfl <| gn hK2 <| gq fun K3 hK3 => ?_; clear h ac; intro ac wo h
 have s3 := Calls.pr ((fun w_ hB_ hS_ => eG a.iv za.1 w_ ) _ h.bel h.sep)
 have p4 := s3
 have s5 := Calls.pr ((fun w_ hB_ hS_ => eG b.iv zb.1 w_ ) _ h.bel h.sep)
 have p6 := s5
 have p8 := aJ ((gi (aW a.iv) (aW b.iv)) w0)
 have p10 := aJ ((ch a.iv.hi b.iv.hi 10 (by omega) za.1.2 zb.1.2) w0)
 replace h := h.emps 1
 refine cj mixed [dv _, dv _, dw _ [1], dv _, dv _, dw _ [0], dv _, dv _, dv _, dw _ [1], dv _, dv _, dv _, dw _ [0], dv _, dv _, dv _, dv _, dw _ [1], dv _, dv _, dw _ [0], dv _, ⟨.nd (.one 23 fun v => NN v 3), [2]⟩, dw _ [2], dv _] [⟨_, []⟩, ⟨_, []⟩, ⟨.emp, [(23, .one 23 fun v => .row (α := Int) 3 v ([(aF a.iv.lo b.iv.lo), (du (aW a.iv) (aW b.iv)), (aF a.iv.hi b.iv.hi)]))]⟩] h rfl (by kernel_rfl) ⟨fun _ _ => az (fa uu145 rfl zz55 rfl rfl rfl (k' := 0)), fun _ _ => az (fa uu55 rfl zz53 rfl rfl rfl (k' := 0)), fun _ _ => cK _ rfl rfl (aV aa53 zz53 rfl rfl rfl (v := (vR a.iv.lo)) rfl), fun _ _ => az (fa uu145 rfl zz55 rfl rfl rfl (k' := 0)), fun _ _ => az (fa uu55 rfl zz53 rfl rfl rfl (k' := 0)), fun _ _ => cK _ rfl rfl (aV aa53 zz53 rfl rfl rfl (v := (vR b.iv.lo)) rfl), fun _ _ => eC (dI (ck Tryz.call115 rfl) (kk (ch a.iv.lo b.iv.lo 10 (by omega) za.1.1 zb.1.1))), fun _ _ => om rfl, fun _ _ => az (fa uu145 rfl zz55 rfl rfl rfl (k' := 0)), fun _ _ => cK _ rfl rfl (aV aa55 zz55 rfl rfl rfl (v := (vV a.iv)) rfl), fun _ _ => eC (dI (j8 (cap := []) Tryz.call154 rfl rfl) (kk (eG a.iv za.1))), fun _ _ => om rfl, fun _ _ => az (fa uu145 rfl zz55 rfl rfl rfl (k' := 0)), fun _ _ => cK _ rfl rfl (aV aa55 zz55 rfl rfl rfl (v := (vV b.iv)) rfl), fun _ _ => eC (dI (j8 (cap := []) Tryz.call154 rfl rfl) (kk (eG b.iv zb.1))), fun _ _ => eC (dI (ck Tryz.call149 rfl) (kk (gi (aW a.iv) (aW b.iv)))), fun _ _ => az (fa uu145 rfl zz55 rfl rfl rfl (k' := 0)), fun _ _ => az (fa uu55 rfl zz53 rfl rfl rfl (k' := 9)), fun _ _ => cK _ rfl rfl (aV aa53 zz53 rfl rfl rfl (v := (vR a.iv.hi)) rfl), fun _ _ => az (fa uu145 rfl zz55 rfl rfl rfl (k' := 0)), fun _ _ => az (fa uu55 rfl zz53 rfl rfl rfl (k' := 9)), fun _ _ => cK _ rfl rfl (aV aa53 zz53 rfl rfl rfl (v := (vR b.iv.hi)) rfl), fun _ _ => eC (dI (ck Tryz.call115 rfl) (kk (ch a.iv.hi b.iv.hi 10 (by omega) za.1.2 zb.1.2))), fun _ _ => kh (ψ := fun v => NN v 3) (B := fun v => [.row (α := Int) 3 v ([(aF a.iv.lo b.iv.lo), (du (aW a.iv) (aW b.iv)), (aF a.iv.hi b.iv.hi)])]) [.emp] rfl (fun v _ => by simp only [eB, bn] <;> rfl) (fun v hv => by simpa [DF.one, bn] using hv) (jI (bF (α := Int) (xs := [.tmp 12, .tmp 21, .tmp 28]) (vs := [(.int .i64 (aF a.iv.lo b.iv.lo)), (.int .i64 (du (aW a.iv) (aW b.iv))), (.int .i64 (aF a.iv.hi b.iv.hi))]) [(aF a.iv.lo b.iv.lo), (du (aW a.iv) (aW b.iv)), (aF a.iv.hi b.iv.hi)] o3 rfl rfl rfl (by decide))), fun ξ hφ => gY _ [.row (α := Int) 3 (ξ 23) ([(aF a.iv.lo b.iv.lo), (du (aW a.iv) (aW b.iv)), (aF a.iv.hi b.iv.hi)])] rfl rfl (dI (ck Tryz.call148 rfl) (fun w_ hB_ hS_ => mv ([(aF a.iv.lo b.iv.lo), (du (aW a.iv) (aW b.iv)), (aF a.iv.hi b.iv.hi)]) (ξ 23) w_ (row_view hS_ 0 rfl))), fun _ _ => az (ak rfl), trivial⟩ ?_
 clear h ac wo; intro ξ ac wo hφ h
 replace h : St w0 31 [(4, (.int .i64 (jC ([(aF a.iv.lo b.iv.lo), (du (aW a.iv) (aW b.iv)), (aF a.iv.hi b.iv.hi)]))))] [.blk b2 (cUN b) 145, .blk b1 (cUN a) 145] ac wo := (h.pick [0, 1] (by decide)).sub ⟨rfl, trivial⟩
 clear hφ ξ
 refine hK3 _ _ ?_
 refine fU ?_
 exact ret h rfl (.tmp rfl .nil) rfl (h.retP (by unfold dU; rfl) trivial)
attribute [irreducible] dU
def gD (data : List (U Ln)) (a : Nat) (b : Nat) (i : Nat) (data1 : List (U Ln)) : List (U Ln) :=
 data1
def gC (data : List (U Ln)) (a : Nat) (b : Nat) (i : Nat) (data1 : List (U Ln)) (j : Nat) (data2 : List (U Ln)) : Nx (Nat × (List (U Ln))) (List (U Ln)) :=
 .go ((i + 1), data2)
def df (data : List (U Ln)) (a : Nat) (b : Nat) (i : Nat) (data1 : List (U Ln)) (j : Nat) (data2 : List (U Ln)) : Nx (Nat × (List (U Ln))) (List (U Ln)) :=
 bif ((decide (((j : Nat) : Int) > ((a : Nat) : Int))) && (decide ((dU (gt data2 j) (gt data2 (j - 1))) < 0))) then
  .go ((j - 1), ((data2.set j (gt data2 (j - 1))).set (j - 1) (gt data2 j)))
 else
  .out (j, data2)
def dg (data : List (U Ln)) (a : Nat) (b : Nat) (i : Nat) (data1 : List (U Ln)) : Nx (Nat × (List (U Ln))) (List (U Ln)) :=
 bif (decide (((i : Nat) : Int) < ((b : Nat) : Int))) then
  fin (bI (fun s => df data a b i data1 s.1 s.2) (i + 1) (i, data1)) (fun s => gC data a b i data1 s.1 s.2) (fun r => .ret r)
 else
  .out (i, data1)
def bA (data : List (U Ln)) (a : Nat) (b : Nat) : List (U Ln) :=
 fin (bI (fun s => dg data a b s.1 s.2) ((b + 1 - (a + 1)) + 1) ((a + 1), data)) (fun s => gD data a b s.1 s.2) (fun r => r)
theorem gA (data : List (U Ln)) (datav : Value) (a : Nat) (b : Nat) (hab : a ≤ b) (hb : b ≤ data.length) (hb2 : b ≤ 1000) (zdata : All (jX 30) data) (w0 w : World) (B : Asn) (hbel : Below w0.heap.size w0 w) (hsep : ∃ Z_, Sep w0.heap.size w [.row (α := U Ln) 145 datav data, B] Z_)  : Calls Tryz.prog 210 #[datav, (.int .i64 ((a : Nat) : Int)), (.int .i64 ((b : Nat) : Int)), (.func (.func 153) #[] #[])] w (RetY w0 (fun v => v = .tuple #[] ∧ (All (jX 30) (bA data a b) ∧ (bA data a b).length = data.length)) (fun v => [.row (α := U Ln) 145 datav (bA data a b), B])) := by
 refine jB (N := 53) (args := [datav, (.int .i64 ((a : Nat) : Int)), (.int .i64 ((b : Nat) : Int)), (.func (.func 153) #[] #[])]) Tryz.func210 rfl rfl hbel hsep ?_; intro ac h
 have hlendata := h.len 0 rfl
 refine eq fun K1 hK1 => ?_
 refine rd0 h (aj rfl) rfl <| g0 (bi rfl rfl (r := ((a + 1 : Nat) : Int)) (by rw [IntKind.wrap_i64]; first | omega | grind)) rfl <| g0 (ak rfl) rfl <| gn hK1 <| gB ?_; clear h ac; intro ac wo h
 obtain ⟨X1, hX1⟩ : ∃ X, bI (fun s => dg data a b s.1 s.2) ((b + 1 - (a + 1)) + 1) ((a + 1), data) = X := ⟨_, rfl⟩
 refine wp_loop_ghost (fun n_ a_ w_ => ∃ (i : Nat) (data1 : List (U Ln)), ((b + 1 - i) < n_) ∧ (bI (fun s => dg data a b s.1 s.2) n_ (i, data1) = X1) ∧ (i ≤ b + 1) ∧ (All (jX 30) data1) ∧ (data1.length = data.length) ∧ St w0 53 [(0, datav), (1, (.int .i64 ((a : Nat) : Int))), (2, (.int .i64 ((b : Nat) : Int))), (3, (.func (.func 153) #[] #[])), (8, (.int .i64 ((i : Nat) : Int)))] [.row (α := U Ln) 145 datav data1, B] a_ w_) ((b + 1 - (a + 1)) + 1) ⟨(a + 1), data, (by omega), hX1, (by first | omega | grind), zdata, (by first | omega | grind), (h.sub ⟨rfl, rfl, rfl, rfl, rfl, trivial⟩)⟩ ?_
 clear h ac wo; rintro n1 ac wo ⟨i, data1, hm1, hL1, hi, zdata1, hdl, h⟩
 obtain ⟨m1, rfl⟩ : ∃ m, n1 = m + 1 := ⟨n1 - 1, by omega⟩
 refine gz h <| gq fun K2 hK2 => gr fun K3 hK3 => g0 (aj rfl) rfl <| g0 (aj rfl) rfl <| g0 (dP rfl rfl) rfl <| gn hK3 ?_; clear h ac wo; intro ac wo h
 refine db h rfl (fun hc1 => ?_) (fun hc1 => ?_)
 ·
  have hd1 := of_decide_eq_true hc1
  refine gz h <| gS <| gx hK2 <| gq fun K4 hK4 => gB <| gr fun K5 hK5 => g0 (aj rfl) rfl <| g0 (ak rfl) rfl <| gn hK5 <| gB ?_; clear h ac wo; intro ac wo h
  obtain ⟨X2, hX2⟩ : ∃ X, bI (fun s => df data a b i data1 s.1 s.2) (i + 1) (i, data1) = X := ⟨_, rfl⟩
  refine wp_loop_ghost (fun n_ a_ w_ => ∃ (j : Nat) (data2 : List (U Ln)), (j < n_) ∧ (bI (fun s => df data a b i data1 s.1 s.2) n_ (j, data2) = X2) ∧ (All (jX 30) data2) ∧ (j ≤ i) ∧ (data2.length = data.length) ∧ St w0 53 [(0, datav), (1, (.int .i64 ((a : Nat) : Int))), (2, (.int .i64 ((b : Nat) : Int))), (3, (.func (.func 153) #[] #[])), (8, (.int .i64 ((i : Nat) : Int))), (9, (.int .i64 ((j : Nat) : Int)))] [.row (α := U Ln) 145 datav data2, B] a_ w_) (i + 1) ⟨i, data1, (by omega), hX2, zdata1, (by first | omega | grind), (by first | omega | grind), (h.sub ⟨rfl, rfl, rfl, rfl, rfl, rfl, trivial⟩)⟩ ?_
  clear h ac wo; rintro n2 ac wo ⟨j, data2, hm2, hL2, zdata2, hj, hdl2, h⟩
  obtain ⟨m2, rfl⟩ : ∃ m, n2 = m + 1 := ⟨n2 - 1, by omega⟩
  refine cG fun K6 hK6 => ?_
  refine cG fun K7 hK7 => ?_
  refine cj mixed [dv _, dv _, dv _, dv _, dv _, dv _, dv _, dv _, dw _ [0], dv _, dv _, dv _, dv _, dw _ [0], dv _, dv _, dv _] [⟨_, []⟩, ⟨_, []⟩] h rfl (by kernel_rfl) ⟨fun _ _ => om rfl, fun _ _ => om rfl, fun _ _ => az (iK rfl rfl), fun _ _ => om rfl, fun _ _ => oh rfl rfl rfl rfl (fun hg => aj rfl), fun _ _ => oh rfl rfl rfl rfl (fun hg => aj rfl), fun _ _ => oh rfl rfl rfl rfl (fun hg => aj rfl), fun _ _ => oh rfl rfl rfl rfl (fun hg => cZ (i := j) uu34 zz145 (ao rfl hg) (ao rfl hg) (h.row_nn 0 rfl (by first | omega | (simp at hg; omega) | grind)) (by first | omega | (simp at hg; omega) | grind)), fun _ _ => oh rfl rfl rfl rfl (fun hg => cY (k := 0) aa145 zz145 (bd (by first | omega | (simp at hg; omega) | grind)) (ao rfl hg) (Nat.add_zero _) rfl rfl (v := (vUN (gt data2 j))) rfl), fun _ _ => oh rfl rfl rfl rfl (fun hg => aj rfl), fun _ _ => oh rfl rfl rfl rfl (fun hg => aj rfl), fun _ _ => oh rfl rfl rfl rfl (fun hg => dk (ao rfl hg) rfl (r := (((j - 1) : Nat) : Int)) (by rw [IntKind.wrap_i64]; first | omega | (simp at hg; omega) | grind)), fun _ _ => oh rfl rfl rfl rfl (fun hg => cZ (i := (j - 1)) uu34 zz145 (ao rfl hg) (ao rfl hg) (h.row_nn 0 rfl (by first | omega | (simp at hg; omega) | grind)) (by first | omega | (simp at hg; omega) | grind)), fun _ _ => oh rfl rfl rfl rfl (fun hg => cY (k := 0) aa145 zz145 (bd (by first | omega | (simp at hg; omega) | grind)) (ao rfl hg) (Nat.add_zero _) rfl rfl (v := (vUN (gt data2 (j - 1)))) rfl), fun _ _ => og1 rfl rfl rfl rfl (fun hg => dI (j8 (cap := []) Tryz.call153 (ao rfl hg) (aU (ao rfl hg) (aU (ao rfl hg) rfl))) (kk (jL (gt data2 j) (gt data2 (j - 1)) (All.gt zdata2 (cr _)) (All.gt zdata2 (cr _))))), fun _ _ => oh rfl rfl rfl rfl (fun hg => dP (ao rfl hg) rfl), fun _ _ => az (da rfl (fun e => (ao rfl e))), trivial⟩ ?_
  clear h ac wo; intro ξ ac wo hφ h
  replace h : St w0 53 [(0, datav), (1, (.int .i64 ((a : Nat) : Int))), (2, (.int .i64 ((b : Nat) : Int))), (3, (.func (.func 153) #[] #[])), (8, (.int .i64 ((i : Nat) : Int))), (9, (.int .i64 ((j : Nat) : Int))), (34, (.bool ((decide (((j : Nat) : Int) > ((a : Nat) : Int))) && (decide ((dU (gt data2 j) (gt data2 (j - 1))) < 0)))))] [.row (α := U Ln) 145 datav data2, B] ac wo := (h.pick [0, 1] (by decide)).sub ⟨rfl, rfl, rfl, rfl, rfl, rfl, rfl, trivial⟩
  clear hφ ξ
  refine hK7 _ _ ?_
  refine db h rfl (fun hc2 => ?_) (fun hc2 => ?_)
  ·
   have hq2 := hc2; try simp at hq2
   refine dR ?_
   refine hK6 _ _ ?_
   refine cG fun K8 hK8 => ?_
   refine eR ?_
   refine cj mixed [dv _, dv _, dv _, dv _, dv _, dv _, dv _, dv _, dv _, dw _ [0], dv _, dv _, dv _, dw _ [0], dv _, dw _ [0], dv _, dw _ [0]] [⟨.row (α := U Ln) 145 datav data2, [(15, .con (.row (α := U Ln) 145 datav (data2.set j (gt data2 (j - 1))))), (17, .con (.row (α := U Ln) 145 datav ((data2.set j (gt data2 (j - 1))).set (j - 1) (gt data2 j))))]⟩, ⟨_, []⟩] h rfl (by kernel_rfl) ⟨fun _ _ => om rfl, fun _ _ => om rfl, fun _ _ => om rfl, fun _ _ => om rfl, fun _ _ => az (dk rfl rfl (r := (((j - 1) : Nat) : Int)) (by rw [IntKind.wrap_i64]; first | omega | grind)), fun _ _ => om rfl, fun _ _ => om rfl, fun _ _ => az (dk rfl rfl (r := (((j - 1) : Nat) : Int)) (by rw [IntKind.wrap_i64]; first | omega | grind)), fun _ _ => az (cZ (i := (j - 1)) uu34 zz145 rfl rfl (h.row_nn 0 rfl (by first | omega | grind)) (by first | omega | grind)), fun _ _ => cK _ rfl rfl (cY (k := 0) aa145 zz145 (bd (by first | omega | grind)) rfl (Nat.add_zero _) rfl rfl (v := (vUN (gt data2 (j - 1)))) rfl), fun _ _ => om rfl, fun _ _ => om rfl, fun _ _ => az (cZ (i := j) uu34 zz145 rfl rfl (h.row_nn 0 rfl (by first | omega | grind)) (by first | omega | grind)), fun _ _ => cK _ rfl rfl (cY (k := 0) aa145 zz145 (bd (by first | omega | grind)) rfl (Nat.add_zero _) rfl rfl (v := (vUN (gt data2 j))) rfl), fun _ _ => az (cZ (i := j) uu34 zz145 rfl rfl (h.row_nn 0 rfl (by first | omega | grind)) (by first | omega | grind)), fun _ _ => gY _ [.row (α := U Ln) 145 datav (data2.set j (gt data2 (j - 1)))] rfl rfl (e7 (k := 0) (u' := (gt data2 (j - 1))) zz145 (bd (by first | omega | grind)) rfl (Nat.add_zero _) rfl rfl rfl rfl rfl rfl), fun _ _ => az (cZ (i := (j - 1)) uu34 zz145 rfl rfl (h.row_nn 0 rfl (by first | omega | grind)) (by first | omega | grind)), fun _ _ => gY _ [.row (α := U Ln) 145 datav ((data2.set j (gt data2 (j - 1))).set (j - 1) (gt data2 j))] rfl rfl (e7 (k := 0) (u' := (gt data2 j)) zz145 (bd (by first | omega | grind)) rfl (Nat.add_zero _) rfl rfl rfl rfl rfl rfl), trivial⟩ ?_
   clear h ac wo; intro ξ ac wo hφ h
   replace h : St w0 53 [(0, datav), (1, (.int .i64 ((a : Nat) : Int))), (2, (.int .i64 ((b : Nat) : Int))), (3, (.func (.func 153) #[] #[])), (8, (.int .i64 ((i : Nat) : Int))), (9, (.int .i64 ((j : Nat) : Int)))] [.row (α := U Ln) 145 datav ((data2.set j (gt data2 (j - 1))).set (j - 1) (gt data2 j)), B] ac wo := (h.pick [0, 1] (by decide)).sub ⟨rfl, rfl, rfl, rfl, rfl, rfl, trivial⟩
   clear hφ ξ
   refine gz h <| gN <| gx hK8 <| gR <| g0 (aj rfl) rfl <| g0 (dk rfl rfl (r := (((j - 1) : Nat) : Int)) (by rw [IntKind.wrap_i64]; first | omega | grind)) rfl <| g0 (ak rfl) rfl <| gx (fun _ _ => bg) ?_; clear h ac wo; intro ac wo h
   exact aE ⟨m2, (by omega), _, _, (by first | omega | grind), bf hL2 (show df data a b i data1 j data2 = .go _ from (cT hc2)), (All.set (All.set zdata2 (All.gt zdata2 (cr _))) (All.gt zdata2 (cr _))), (by first | omega | grind), (by first | omega | grind), (h.pick [0, 1] (by decide)).sub ⟨rfl, rfl, rfl, rfl, rfl, rfl, trivial⟩⟩
  ·
   have hq2 := hc2; try simp at hq2
   refine dO ?_
   have hx2 := cJ hL2 (show df data a b i data1 j data2 = .out (j, data2) from (cF hc2))
   refine gz h <| gx hK4 <| gR <| g0 (aj rfl) rfl <| g0 (bi rfl rfl (r := ((i + 1 : Nat) : Int)) (by rw [IntKind.wrap_i64]; first | omega | grind)) rfl <| g0 (ak rfl) rfl <| gx (fun _ _ => bg) ?_; clear h ac wo; intro ac wo h
   exact aE ⟨m1, (by omega), _, _, (by first | omega | grind), bf hL1 (show dg data a b i data1 = .go _ from (Eq.trans (cT hc1) (ee (hX2.trans hx2)))), (by first | omega | grind), zdata2, (by first | omega | grind), (h.pick [0, 1] (by decide)).sub ⟨rfl, rfl, rfl, rfl, rfl, trivial⟩⟩
 ·
  have hd1 := of_decide_eq_false hc1
  refine dO ?_
  have hx1 := cJ hL1 (show dg data a b i data1 = .out (i, data1) from (cF hc1))
  have hd : bA data a b = data1 := (ee (hX1.trans hx1))
  exact nK (vs := []) h rfl .nil rfl ((h.pick [0, 1] (by decide)).retY ⟨rfl, (by rw [hd]; exact ⟨zdata1, (by first | omega | grind)⟩)⟩ (by rw [hd]; rfl))
attribute [irreducible] bA
def iI (data : List (U Ln)) (n : Nat) (a : Nat) (b : Nat) (data1 : List (U Ln)) (blockSize : Nat) : List (U Ln) :=
 (bA data1 a n)
def eo (data : List (U Ln)) (n : Nat) (a : Nat) (b : Nat) (data1 : List (U Ln)) (blockSize : Nat) : Nx Nat (List (U Ln)) :=
 .out blockSize
def iJ (data : List (U Ln)) (n : Nat) (a : Nat) (b : Nat) (data1 : List (U Ln)) : List (U Ln) :=
 fin (bI (fun s => eo data n a b data1 s) (0 + 1) 20) (fun s => iI data n a b data1 s) (fun r => r)
def ep (data : List (U Ln)) (n : Nat) (a : Nat) (b : Nat) (data1 : List (U Ln)) : Nx (Nat × Nat × (List (U Ln))) (List (U Ln)) :=
 .out (a, b, data1)
def cA (data : List (U Ln)) (n : Nat) : List (U Ln) :=
 fin (bI (fun s => ep data n s.1 s.2.1 s.2.2) (0 + 1) (0, 20, data)) (fun s => iJ data n s.1 s.2.1 s.2.2) (fun r => r)
theorem iH (data : List (U Ln)) (datav : Value) (n : Nat) (hn : n = data.length) (hl : data.length < 20) (zdata : All (jX 30) data) (w0 w : World) (B : Asn) (hbel : Below w0.heap.size w0 w) (hsep : ∃ Z_, Sep w0.heap.size w [.row (α := U Ln) 145 datav data, B] Z_)  : Calls Tryz.prog 187 #[datav, (.int .i64 ((n : Nat) : Int)), (.func (.func 153) #[] #[])] w (RetY w0 (fun v => v = .tuple #[] ∧ (All (jX 30) (cA data n) ∧ (cA data n).length = data.length)) (fun v => [.row (α := U Ln) 145 datav (cA data n), B])) := by
 refine jB (N := 63) (args := [datav, (.int .i64 ((n : Nat) : Int)), (.func (.func 153) #[] #[])]) Tryz.func187 rfl rfl hbel hsep ?_; intro ac h
 have hlendata := h.len 0 rfl
 refine eq fun K1 hK1 => ?_
 refine rd0 h (ak rfl) rfl <| gn hK1 <| gr fun K2 hK2 => g0 (aj rfl) rfl <| g0 (ak rfl) rfl <| g0 (ak rfl) rfl <| gn hK2 <| gq fun K3 hK3 => gB ?_; clear h ac; intro ac wo h
 obtain ⟨X1, hX1⟩ : ∃ X, bI (fun s => ep data n s.1 s.2.1 s.2.2) (0 + 1) (0, 20, data) = X := ⟨_, rfl⟩
 refine wp_loop_ghost (fun n_ a_ w_ => ∃ (a : Nat) (b : Nat) (data1 : List (U Ln)), (0 < n_) ∧ (bI (fun s => ep data n s.1 s.2.1 s.2.2) n_ (a, b, data1) = X1) ∧ (All (jX 30) data1) ∧ (a = 0) ∧ (b = 20) ∧ (data1.length = data.length) ∧ St w0 63 [(0, datav), (1, (.int .i64 ((n : Nat) : Int))), (2, (.func (.func 153) #[] #[])), (6, (.int .i64 20)), (7, (.int .i64 ((a : Nat) : Int))), (8, (.int .i64 ((b : Nat) : Int)))] [.row (α := U Ln) 145 datav data1, B] a_ w_) (0 + 1) ⟨0, 20, data, (by omega), hX1, zdata, (by first | omega | grind), (by first | omega | grind), (by first | omega | grind), (h.sub ⟨rfl, rfl, rfl, rfl, rfl, rfl, trivial⟩)⟩ ?_
 clear h ac wo; rintro n1 ac wo ⟨a, b, data1, hm1, hL1, zdata1, ha0, hb0, hdl, h⟩
 obtain ⟨m1, rfl⟩ : ∃ m, n1 = m + 1 := ⟨n1 - 1, by omega⟩
 refine gz h <| gq fun K4 hK4 => gr fun K5 hK5 => g0 (aj rfl) rfl <| g0 (aj rfl) rfl <| g0 (qA rfl rfl) rfl <| gn hK5 ?_; clear h ac wo; intro ac wo h
 refine kT h rfl ?_ (decide_eq_false (by omega))
 refine dO ?_
 have hx1 := cJ hL1 (show ep data n a b data1 = .out (a, b, data1) from rfl)
 refine gz h <| gx hK3 <| gr fun K6 hK6 => g0 (aj rfl) rfl <| g0 (aj rfl) rfl <| g0 (aj rfl) rfl <| g0 (aj rfl) rfl ?_; clear h ac wo; intro ac wo h
 refine on1 h 0 rfl (kM (vs := [datav, (.int .i64 ((a : Nat) : Int)), (.int .i64 ((n : Nat) : Int)), (.func (.func 153) #[] #[])]) (A := fun v => [.row (α := U Ln) 145 datav (bA data1 a n)]) (ck Tryz.call210 rfl) (fun w_ B_ hB_ hS_ => gA data1 datav a n (by first | omega | grind) (by first | omega | grind) (by first | omega | grind) zdata1 w0 w_ B_ hB_ hS_ )) rfl ?_; clear h ac wo; intro vc ac wo s2 h
 obtain rfl : vc = _ := s2.1
 have p3 := s2.2.2
 refine bg ?_
 refine hK6 _ _ ?_
 refine eR ?_
 obtain ⟨X2, hX2⟩ : ∃ X, bI (fun s => eo data n a b data1 s) (0 + 1) 20 = X := ⟨_, rfl⟩
 refine wp_loop_ghost (fun n_ a_ w_ => ∃ (blockSize : Nat), (0 < n_) ∧ (bI (fun s => eo data n a b data1 s) n_ blockSize = X2) ∧ (blockSize = 20) ∧ St w0 63 [(0, datav), (1, (.int .i64 ((n : Nat) : Int))), (2, (.func (.func 153) #[] #[])), (6, (.int .i64 ((blockSize : Nat) : Int)))] [.row (α := U Ln) 145 datav (bA data1 a n), B] a_ w_) (0 + 1) ⟨20, (by omega), hX2, (by first | omega | grind), (h.sub ⟨rfl, rfl, rfl, rfl, trivial⟩)⟩ ?_
 clear h ac wo; rintro n2 ac wo ⟨blockSize, hm2, hL2, hbs, h⟩
 obtain ⟨m2, rfl⟩ : ∃ m, n2 = m + 1 := ⟨n2 - 1, by omega⟩
 refine gz h <| gq fun K7 hK7 => gr fun K8 hK8 => g0 (aj rfl) rfl <| g0 (aj rfl) rfl <| g0 (dP rfl rfl) rfl <| gn hK8 ?_; clear h ac wo; intro ac wo h
 refine kT h rfl ?_ (decide_eq_false (by omega))
 refine dO ?_
 have hx2 := cJ hL2 (show eo data n a b data1 blockSize = .out blockSize from rfl)
 have hd : cA data n = (bA data1 a n) := (Eq.trans (ee (hX1.trans hx1)) (ee (hX2.trans hx2)))
 exact nK (vs := []) h rfl .nil rfl ((h.pick [0, 1] (by decide)).retY ⟨rfl, (by rw [hd]; exact ⟨s2.2.1, (by first | omega | grind)⟩)⟩ (by rw [hd]; rfl))
attribute [irreducible] cA
def bp (x : List (U Ln)) : List (U Ln) :=
 (cA x x.length)
theorem fq (x : List (U Ln)) (xv : Value) (hl : x.length < 20) (zx : All (jX 30) x) (w0 w : World) (B : Asn) (hbel : Below w0.heap.size w0 w) (hsep : ∃ Z_, Sep w0.heap.size w [.row (α := U Ln) 145 xv x, B] Z_)  : Calls Tryz.prog 152 #[xv, (.func (.func 153) #[] #[])] w (RetY w0 (fun v => v = .tuple #[] ∧ (All (jX 30) (bp x) ∧ (bp x).length = x.length)) (fun v => [.row (α := U Ln) 145 xv (bp x), B])) := by
 refine jB (N := 9) (args := [xv, (.func (.func 153) #[] #[])]) Tryz.func152 rfl rfl hbel hsep ?_; intro ac h
 have hlenx := h.len 0 rfl
 refine c_r ?_
 refine rd0 h (aj rfl) rfl <| g0 (aj rfl) rfl ?_; clear h ac; intro ac wo h
 refine rd0 h (dy uu34 rfl (h.row_sl 0 rfl)) rfl <| g0 (aj rfl) rfl ?_; clear h ac wo; intro ac wo h
 refine on1 h 0 rfl (kM (vs := [xv, (.int .i64 ((x.length : Nat) : Int)), (.func (.func 153) #[] #[])]) (A := fun v => [.row (α := U Ln) 145 xv (cA x x.length)]) (ck Tryz.call187 rfl) (fun w_ B_ hB_ hS_ => iH x xv x.length (by first | omega | grind) (by first | omega | grind) zx w0 w_ B_ hB_ hS_ )) rfl ?_; clear h ac wo; intro vc ac wo s2 h
 obtain rfl : vc = _ := s2.1
 have p3 := s2.2.2
 refine bg ?_
 have hd : bp x = (cA x x.length) := rfl
 exact nK (vs := []) h rfl .nil rfl ((h.pick [0, 1] (by decide)).retY ⟨rfl, (by rw [hd]; exact ⟨s2.2.1, (by first | omega | grind)⟩)⟩ (by rw [hd]; rfl))
attribute [irreducible] bp
def aa (l : List (U Ln)) : (List (U Ln)) :=
 (bp (bh l))
theorem iq (l : List (U Ln)) (lv : Value) (hl : l.length < 20) (zl : All (jX 30) l) (w0 : World) (hlv : View w0 lv l) : Calls Tryz.prog 85 #[lv] w0 (RetR w0 145 (aa l) (All (jX 30) (aa l) ∧ (aa l).length = l.length)) := by
 refine enter (N := 9) (args := [lv]) Tryz.func85 rfl rfl ?_; intro ac h
 have hlenl := hlv.len
 refine eq fun K1 hK1 => ?_
 refine rd0 h (ak rfl) rfl <| gn hK1 <| gr fun K2 hK2 => g0 (aj rfl) rfl ?_; clear h ac; intro ac wo h
 have s1 := RetR.pr ((fun w_ hB_ hS_ => eO l lv (by first | omega | grind) zl w_ (hlv.below hB_)) _ h.bel h.sep)
 have p2 := s1.2
 have p2_0 := p2.1
 have p2_1 := p2.2
 refine ja (xs := (bh l)) h (ck Tryz.call151 rfl) (fun w_ hB_ hS_ => eO l lv (by first | omega | grind) zl w_ (hlv.below hB_)) rfl ?_; clear h ac wo; intro sv3 ac wo _ h
 refine rd0 h (ak rfl) rfl <| gn hK2 <| gr fun K3 hK3 => g0 (aj rfl) rfl ?_; clear h ac wo; intro ac wo h
 refine on1 h 0 rfl (kM (vs := [sv3, (.func (.func 153) #[] #[])]) (A := fun v => [.row (α := U Ln) 145 sv3 (bp (bh l))]) (ck Tryz.call152 rfl) (fun w_ B_ hB_ hS_ => fq (bh l) sv3 (by first | omega | grind) s1.1 w0 w_ B_ hB_ hS_ )) rfl ?_; clear h ac wo; intro vc ac wo s5 h
 obtain rfl : vc = _ := s5.1
 have p6 := s5.2.2
 refine gz h <| gn hK3 <| gr fun K4 hK4 => g0 (aj rfl) rfl <| g0 (ak rfl) rfl <| gn hK4 <| gT ?_; clear h ac wo; intro ac wo h
 exact ret h rfl (.tmp rfl .nil) rfl (by unfold aa; exact h.retR 0 rfl ⟨s5.2.1, (by first | omega | grind)⟩)
attribute [irreducible] aa
end Go.Sx
