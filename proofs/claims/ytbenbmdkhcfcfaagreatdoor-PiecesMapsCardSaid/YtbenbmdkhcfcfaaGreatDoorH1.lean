/- Part of piecesMaps. -/
import Derived.Test.YtbenbmdkhcfcfaaGreatDoorGarith
set_option linter.unusedVariables false
set_option linter.unusedSimpArgs false
open Go.Proofs.Tryz renaming prog → zP, sizeOf53 → zz53, sizeOf86 → zz86, sizeOf4 → zz4, sizeOf71 → zz71, runUnderlying59 → uu59, isAgg71 → aa71, isAgg86 → aa86, runUnderlying167 → uu167, sizeOf166 → zz166, runUnderlying166 → uu166, runUnderlying3 → uu3, runUnderlying66 → uu66, underlying57 → nn57, call265 → cc265, sizeOf57 → zz57, runUnderlying176 → uu176, runUnderlying86 → uu86, underlying266 → nn266
set_option maxRecDepth 100000
set_option maxHeartbeats 40000000
namespace Go.Sx
open Go Go.RowKit Go.Proofs
attribute [local irreducible] Code.wp wpList Rd iq ObS Ent
attribute [local irreducible] ar bS ao aR aG cX
theorem bld182 : BuildF zP 182 (zc [2,2,2,2,1,2,2,2,2,1,1,1,2,2,2,2,2,2,2,2,2,2,2,2]) [(0, 20), (20, 12), (32, 12)] := BuildF.of Tryz.zeroValue182 rfl Tryz.runUnderlying182 (by intro w; simp [zz53, zz86])
theorem bld206 : BuildF zP 206 (zc [2,2,2,2,1,1]) [(0, 9), (9, 1)] := BuildF.of Tryz.zeroValue206 rfl Tryz.runUnderlying206 (by intro w; simp [zz4, zz71])
theorem bld264 : BuildF zP 264 (zc [2,2,2,2,1,2,2,2,2,1,1,1,2,2,2,2,2,2]) [(0, 9), (9, 9), (18, 1), (19, 1), (20, 12)] := BuildF.of Tryz.zeroValue264 rfl Tryz.runUnderlying264 (by intro w; simp [zz4, zz53, zz71])
theorem xN : BuildF zP 55 [] [] := BuildF.of Tryz.zeroValue55 rfl Tryz.runUnderlying55 (by intro w; simp)
theorem bld59 : BuildF zP 59 [] [] := BuildF.of Tryz.zeroValue59 rfl uu59 (by intro w; simp)
theorem od : SlT zP 66 71 9 104 (zc [2,2,2,2,1]) := ⟨Tryz.underlying66, Tryz.t71, _, Tryz.type71, rfl, rfl, rfl, rfl, rfl, by decide, by decide⟩
def bt (n : Int) : GR :=
 (bS n)
theorem fy (n : Int) (hn : -9223372036854775808 ≤ n ∧ n ≤ 9223372036854775807) (w0 : World) : Calls zP 122 #[(.int .i64 n)] w0 (RetP w0 (vR (bt n)) (SzR 40 (bt n))) := by
 refine enter (N := 5) Tryz.func122 rfl rfl ?_; intro ac h
 have c1 := pC n 40 og  og
 have s1 := aA (c1 w0)
 refine gz h <| (xa) fun b1 => (xk (c1)) <| (W) ?_; clear h; intro _ _ h
 exact ret h rfl (.cell (v := (vR (bS n))) rfl (i := 0) rfl aa71 zz71 rfl rfl rfl .nil) rfl (h.retP (by unfold bt; rfl) (by unfold bt; exact s1))
attribute [irreducible] bt
def ae (n : Int) (root : Bool) : GR :=
 bif root then
  (⟨(ao n), (ao 2), false⟩ : GR)
 else
  (bt n)
theorem jB (n : Int) (root : Bool) (hn : -9223372036854775808 ≤ n ∧ n ≤ 9223372036854775807) (w0 : World) : Calls zP 112 #[(.int .i64 n), (.bool root)] w0 (RetP w0 (vR (ae n root)) (SzR 40 (ae n root))) := by
 refine enter (N := 12) Tryz.func112 rfl rfl ?_; intro ac h
 refine gz h <| (xa) fun b1 => (ai) ?_ ?_ <;> clear h <;> intro _ _ h hc1
 ·
  have q := hc1; try simp at q
  have c1 := cb n 40 og  og
  have s1 := aA (c1 w0)
  have c2 := cb 2 40 og  og
  have s2 := aA (c2 w0)
  have hd : ae n root = (⟨(ao n), (ao 2), false⟩ : GR) := pt
  refine gz h <| (xk (c1)) <| (xk (c2)) <| (xo (hs := by exact bM bld71 exs rfl (v := (vR (⟨(ao n), (ao 2), false⟩ : GR))) rfl)) <| (W) ?_; clear h; intro _ _ h
  exact ret h rfl (.cell (v := (vR (⟨(ao n), (ao 2), false⟩ : GR))) rfl (i := 0) rfl aa71 zz71 rfl rfl rfl .nil) rfl (h.retP (by rw [hd] <;> rfl) (by rw [hd]; exact ⟨s1, s2⟩))
 ·
  have q := hc1; try simp at q
  have c3 := fy n og
  have s3 := Calls.pr (c3 w0)
  have hd : ae n root = (bt n) := pt
  refine gz h <| (xk (c3)) <| (W) ?_; clear h; intro _ _ h
  exact ret h rfl (.cell (v := (vR (bt n))) rfl (i := 0) rfl aa71 zz71 rfl rfl rfl .nil) rfl (h.retP (by rw [hd] <;> rfl) (by rw [hd]; exact s3))
attribute [irreducible] ae
def a8 (a : Int) (b : Int) : Iv :=
 (⟨(bt a), (bt b), false, false⟩ : Iv)
theorem gh (a : Int) (b : Int) (ha : -9223372036854775808 ≤ a ∧ a ≤ 9223372036854775807) (hb : -9223372036854775808 ≤ b ∧ b ≤ 9223372036854775807) (w0 : World) : Calls zP 108 #[(.int .i64 a), (.int .i64 b)] w0 (RetP w0 (vV (a8 a b)) (SzV 40 (a8 a b))) := by
 refine enter (N := 10) Tryz.func108 rfl rfl ?_; intro ac h
 have c1 := fy a og
 have s1 := Calls.pr (c1 w0)
 have c2 := fy b og
 have s2 := Calls.pr (c2 w0)
 refine gz h <| (xa) fun b1 => (xk (c1)) <| (xk (c2)) <| (xo (hs := by exact bM nD exs rfl (v := (vV (⟨(bt a), (bt b), false, false⟩ : Iv))) rfl)) <| (W) ?_; clear h; intro _ _ h
 exact ret h rfl (.cell (v := (vV (⟨(bt a), (bt b), false, false⟩ : Iv))) rfl (i := 0) rfl aa86 zz86 rfl rfl rfl .nil) rfl (h.retP (by unfold a8; rfl) (by unfold a8; exact ⟨s1, s2⟩))
attribute [irreducible] a8
def ap (s : Stp) : Qd :=
 (⟨(ao (Int.tmod s.c0 4)), (ao (Int.tmod s.c1 3)), (ao (Int.tmod s.c2 2))⟩ : Qd)
theorem kh (s : Stp) (w0 : World) : Calls zP 111 #[(vS s)] w0 (RetP w0 (vD (ap s)) (SzD 40 (ap s))) := by
 refine enter (N := 22) Tryz.func111 rfl rfl ?_; intro ac h
 have t0 := sW s.c0 4 DC
 have t1 := sW s.c1 3 DC
 have t2 := sW s.c2 2 DC
 refine gz h <| (xb) fun b1 => (xa) fun b2 => (W) ?_; clear h; intro _ _ h
 have c1 := cb (Int.tmod s.c0 4) 40 og  og
 have s1 := aA (c1 w0)
 have s2 := aA ((cb (Int.tmod s.c1 3) 40 og  og) w0)
 have s3 := aA ((cb (Int.tmod s.c2 2) 40 og  og) w0)
 refine gz h <| (dr1 (H := [⟨.blk b2 (cD oD) 53, [(19, .con (.blk b2 (cD (⟨(ao (Int.tmod s.c0 4)), (ao (Int.tmod s.c1 3)), (ao (Int.tmod s.c2 2))⟩ : Qd)) 53))]⟩, ⟨.blk b1 (cS s) 169, []⟩]) (hob := (oX (h := by exact fun _ => a6 (vZ (i := 0) uu167 zz166 rfl rfl DC))) <| (oX (h := by exact fun _ => a6 (kb rfl rfl (r := (Int.tmod s.c0 4)) DC rfl))) <| (oX (h := by exact fun _ => a6 (bn uu166 uu3 rfl (r := (Int.tmod s.c0 4)) (by rw [IntKind.wrap_i64]; omega)))) <| (oK (c1)) <| (oX (h := by exact fun _ => a6 (vZ (i := 1) uu167 zz166 rfl rfl DC))) <| (oX (h := by exact fun _ => a6 (kb rfl rfl (r := (Int.tmod s.c1 3)) DC rfl))) <| (oX (h := by exact fun _ => a6 (bn uu166 uu3 rfl (r := (Int.tmod s.c1 3)) (by rw [IntKind.wrap_i64]; omega)))) <| (oK (cb (Int.tmod s.c1 3) 40 og  og)) <| (oX (h := by exact fun _ => a6 (vZ (i := 2) uu167 zz166 rfl rfl DC))) <| (oX (h := by exact fun _ => a6 (kb rfl rfl (r := (Int.tmod s.c2 2)) DC rfl))) <| (oX (h := by exact fun _ => a6 (bn uu166 uu3 rfl (r := (Int.tmod s.c2 2)) (by rw [IntKind.wrap_i64]; omega)))) <| (oK (cb (Int.tmod s.c2 2) 40 og  og)) <| (oX (h := by exact fun _ => a6 (bM tG exs rfl (v := (vD (⟨(ao (Int.tmod s.c0 4)), (ao (Int.tmod s.c1 3)), (ao (Int.tmod s.c2 2))⟩ : Qd))) rfl))) <| oE)) <| (W) ?_; clear h; intro _ _ h
 exact ret h rfl (.cell (v := (vD (⟨(ao (Int.tmod s.c0 4)), (ao (Int.tmod s.c1 3)), (ao (Int.tmod s.c2 2))⟩ : Qd))) rfl (i := 0) rfl Tryz.isAgg53 zz53 rfl rfl rfl .nil) rfl (h.retP (by unfold ap; rfl) (by unfold ap; exact ⟨s1, s2, s3⟩))
attribute [irreducible] ap
def aY (iv : Iv) (a : GR) (b : GR) (gap : Bool) : Bool :=
 bif gap then
  ((decide ((ar iv.lo a) ≤ 0)) && (decide ((ar b iv.hi) ≤ 0)))
 else
  (((decide ((ar iv.lo a) < 0)) || (((ar iv.lo a) == 0) && (!iv.openLo))) && ((decide ((ar b iv.hi) < 0)) || (((ar b iv.hi) == 0) && (!iv.openHi))))
theorem jW (iv : Iv) (a : GR) (b : GR) (gap : Bool) (ziv : SzV 30 iv) (za : SzR 30 a) (zb : SzR 30 b) (w0 : World) : Calls zP 124 #[(vV iv), (vR a), (vR b), (.bool gap)] w0 (RetP w0 (.bool (aY iv a b gap)) (True)) := by
 refine enter (N := 50) Tryz.func124 rfl rfl ?_; intro ac h
 have p2 := aA ((aO iv.lo a 10 og ziv.1 za) w0)
 have p4 := aA ((aO b iv.hi 10 og zb ziv.2) w0)
 refine gz h <| (xb) fun b1 => (xb) fun b2 => (xb) fun b3 => (dr0 (hob := (oK (aO iv.lo a 10 og ziv.1 za)) <| (oK (aO b iv.hi 10 og zb ziv.2)) <| oE)) <| (ai) ?_ ?_ <;> clear h <;> intro _ _ h hc1
 ·
  have q := hc1; try simp at q
  have hd : aY iv a b gap = ((decide ((ar iv.lo a) ≤ 0)) && (decide ((ar b iv.hi) ≤ 0))) := pt
  exact (rx h) fun _ _ h => (h.retP (by rw [hd] <;> rfl) trivial)
 ·
  have q := hc1; try simp at q
  have hd : aY iv a b gap = (((decide ((ar iv.lo a) < 0)) || (((ar iv.lo a) == 0) && (!iv.openLo))) && ((decide ((ar b iv.hi) < 0)) || (((ar b iv.hi) == 0) && (!iv.openHi)))) := pt
  exact (rx h) fun _ _ h => (h.retP (by rw [hd] <;> rfl) trivial)
attribute [irreducible] aY
def jY (l : List GR) (x : GR) (i : Nat) : (List GR) :=
 (l ++ [x])
def db (l : List GR) (x : GR) (i : Nat) : Nx Nat (List GR) :=
 bif (decide ((i : Int) < (l.length : Int))) then
  bif ((ar x (gt l i)) == 0) then
   .ret l
  else
   bif ((ar x (gt l i)) == (-1)) then
    .ret ((([] ++ (l.take i)) ++ [x]) ++ (l.drop i))
   else
    .go (i + 1)
 else
  .out i
def aC (l : List GR) (x : GR) : (List GR) :=
 fin (bo (fun s => db l x s) ((l.length - 0) + 1) 0) (fun s => jY l x s) (fun r => r)
theorem jX (l : List GR) (lv : Value) (x : GR) (hl : l.length ≤ 1000) (zl : All (SzR 30) l) (zx : SzR 30 x) (w0 w : World) (B : Asn) (hbel : Below w0.heap.size w0 w) (hsep : ∃ Z_, Sep w0.heap.size w [.row (α := GR) 71 lv l, B] Z_) : Calls zP 156 #[lv, (vR x)] w (RetY w0 (fun v => All (SzR 30) (aC l x) ∧ (aC l x).length ≤ l.length + 1) (fun v => [.row (α := GR) 71 v (aC l x), B])) := by
 refine l6 (N := 39) Tryz.func156 rfl rfl hbel hsep ?_; intro ac h
 have hlenl := h.len 0 rfl
 obtain ⟨X1, hX1⟩ : ∃ X, bo (fun s => db l x s) ((l.length - 0) + 1) 0 = X := ⟨_, rfl⟩
 refine gz h <| (xb) fun b1 => (W) ?_; clear h ac; intro ac wo h
 refine wp_loop_ghost (fun n_ a_ w_ => ∃ (i : Nat), ((l.length - i) < n_) ∧ (bo (fun s => db l x s) n_ i = X1) ∧ (i ≤ l.length) ∧ St w0 39 [(0, lv), (3, (ptr b1 0)), (5, (iN i))] [.blk b1 (cR x) 71, .row (α := GR) 71 lv l, B] a_ w_) ((l.length - 0) + 1) ⟨0, og, hX1, og, h.rs⟩ ?_
 clear h ac wo; rintro n1 ac wo ⟨i, hm1, hL1, hi, h⟩
 obtain ⟨m1, rfl⟩ : ∃ m, n1 = m + 1 := ⟨n1 - 1, by omega⟩
 refine gz h <| (ai) ?_ ?_ <;> clear h ac wo <;> intro ac wo h hc1
 ·
  have hd1 := of_decide_eq_true hc1
  refine gz h <| (W) ?_; clear h ac wo; intro ac wo h
  have p2 := aA ((aO x (gt l i) 10 og zx (All.gt zl (kT _))) w0)
  refine gz h <| (dr0 (hob := (oK (aO x (gt l i) 10 og zx (All.gt zl (kT _)))) <| oE)) <| (ai) ?_ ?_ <;> clear h ac wo <;> intro ac wo h hc2
  ·
   have hd2 := eq_of_beq hc2
   have hr1 := fR hL1 pt
   have hd : aC l x = l := pt
   exact (rx h) fun _ _ h => ((h.pick [1, 2] DC).retY (by rw [hd]; exact ⟨zl, og⟩) (by rw [hd]; rfl))
  ·
   have hd2 := ne_of_beq_false hc2
   refine gz h <| (ai) ?_ ?_ <;> clear h ac wo <;> intro ac wo h hc3
   ·
    have hd3 := eq_of_beq hc3
    refine gz h <| (W) ?_; clear h ac wo; intro ac wo h
    replace h := h.emps 2
    refine gm mixed [⟨.nd (.one 0 fun v => NN v 0), [3]⟩, dv _, dv _, dv _, ⟨.nd (.con True), [3, 1]⟩, dw _ [0], ⟨.nd (.one 6 fun v => NN v 1), [4]⟩, ⟨.nd (.con True), [3, 4]⟩, dv _, dv _, dv _, ⟨.nd (.con True), [3, 1]⟩, ⟨.nd (.two 12 11 fun a b => a = b), []⟩] [⟨_, []⟩, ⟨_, []⟩, ⟨_, []⟩, ⟨.emp, [(0, .one 0 fun v => .row (α := GR) 71 v ([])), (4, .one 4 fun v => .row (α := GR) 71 v ([] ++ (l.take i))), (7, .one 7 fun v => .row (α := GR) 71 v (([] ++ (l.take i)) ++ [x])), (11, .one 11 fun v => .row (α := GR) 71 v ((([] ++ (l.take i)) ++ [x]) ++ (l.drop i)))]⟩, ⟨.emp, [(6, .one 6 fun v => .row (α := GR) 71 v ([x]))]⟩] h rfl (by kernel_rfl) ⟨fun _ _ => ls (ψ := fun v => NN v 0) (B := fun v => [.row (α := GR) 71 v ([])]) [.emp] rfl (fun v _ => by simp only [dJ, bm] <;> rfl) (fun v hv => by simpa [DF.one, bm] using hv) (jo (cj (α := GR) (xs := []) (vs := []) [] od rfl rfl rfl DC)), fun _ _ => om rfl, fun _ _ => om rfl, fun _ _ => a6 (r_cut (n := i) uu66 zz71 rfl rfl (h.row_view 1 rfl) og), fun ξ hφ => ls (B := fun v => [.row (α := GR) 71 v ([] ++ (l.take i)), .row (α := GR) 71 lv l]) [.row (α := GR) 71 (ξ 0) ([]), .row (α := GR) 71 lv l] rfl (fun v _ => by simp only [dJ, bm] <;> rfl) (fun _ _ => trivial) (er (xs := []) (ys := (l.take i)) od (fun w hs => ((row_view hs 0 rfl).cut og)) rfl rfl og), fun _ _ => iM _ rfl rfl (iB aa71 zz71 rfl rfl rfl (v := (vR x)) rfl), fun _ _ => ls (ψ := fun v => NN v 1) (B := fun v => [.row (α := GR) 71 v ([x])]) [.emp] rfl (fun v _ => by simp only [dJ, bm] <;> rfl) (fun v hv => by simpa [DF.one, bm] using hv) (jo (cj (α := GR) (xs := [.tmp 28]) (vs := [(vR x)]) [x] od rfl rfl rfl DC)), fun ξ hφ => ls (B := fun v => [.row (α := GR) 71 v (([] ++ (l.take i)) ++ [x]), .row (α := GR) 71 (ξ 6) ([x])]) [.row (α := GR) 71 (ξ 4) ([] ++ (l.take i)), .row (α := GR) 71 (ξ 6) ([x])] rfl (fun v _ => by simp only [dJ, bm] <;> rfl) (fun _ _ => trivial) (er (xs := ([] ++ (l.take i))) (ys := [x]) od (fun w hs => (row_view hs 0 rfl)) rfl rfl og), fun _ _ => om rfl, fun _ _ => om rfl, fun _ _ => a6 (r_from (n := i) uu66 zz71 rfl rfl (h.row_view 1 rfl) og), fun ξ hφ => ls (B := fun v => [.row (α := GR) 71 v ((([] ++ (l.take i)) ++ [x]) ++ (l.drop i)), .row (α := GR) 71 lv l]) [.row (α := GR) 71 (ξ 7) (([] ++ (l.take i)) ++ [x]), .row (α := GR) 71 lv l] rfl (fun v _ => by simp only [dJ, bm] <;> rfl) (fun _ _ => trivial) (er (xs := (([] ++ (l.take i)) ++ [x])) (ys := (l.drop i)) od (fun w hs => ((row_view hs 0 rfl).dropv og)) rfl rfl og), fun ξ hφ => ob_n (φ := .two 12 11 fun a b => a = b) (v := ξ 11) [] rfl rfl (by show upd ξ 12 (ξ 11) 12 = upd ξ 12 (ξ 11) 11; rw [bm, kv DC]) (az rfl), trivial⟩ ?_
    clear h ac wo; intro ξ ac wo hφ h
    replace h : St w0 39 [(4, ξ 12)] [.blk b1 (cR x) 71, .row (α := GR) 71 lv l, B, .row (α := GR) 71 (ξ 11) ((([] ++ (l.take i)) ++ [x]) ++ (l.drop i))] ac wo := (h.pick [0, 1, 2, 3] DC).sub ⟨rfl, trivial⟩
    rw [show ξ 12 = ξ 11 from hφ 12] at h
    generalize hsv11 : ξ 11 = sv3 at h; clear hsv11
    clear hφ ξ
    have hr1 := fR hL1 pt
    have hd : aC l x = ((([] ++ (l.take i)) ++ [x]) ++ (l.drop i)) := pt
    exact (rx h) fun _ _ h => ((h.pick [3, 2] DC).retY (by rw [hd]; exact ⟨(All.app (All.app (All.app All.nil (All.take zl)) (All.cons zx All.nil)) (All.drop zl)), og⟩) (by rw [hd]; rfl))
   ·
    have hd3 := ne_of_beq_false hc3
    have hg := bq hL1 pt
    exact (nx h) fun _ _ h => by exact ⟨m1, og, _, og, hg, og, h.re [0, 1, 2]⟩
 ·
  have hd1 := of_decide_eq_false hc1
  have hx1 := ck hL1 pt
  refine gz h <| (W) ?_; clear h ac wo; intro ac wo h
  refine nw h (cj (α := GR) (xs := [.tmp 36]) (vs := [(vR x)]) [x] od rfl rfl rfl DC) rfl ?_; clear h ac wo; intro sv4 ac wo nnsv4 h
  refine on2 h 2 0 rfl rfl (er (xs := l) (ys := [x]) od (fun w hs => (row_view hs 0 rfl)) rfl rfl og) rfl ?_; clear h ac wo; intro sv5 ac wo apsv5 h
  have hd : aC l x = (l ++ [x]) := pt
  exact (rx h) fun _ _ h => ((h.pick [0, 3] DC).retY (by rw [hd]; exact ⟨(All.app zl (All.cons zx All.nil)), og⟩) (by rw [hd]; rfl))
attribute [irreducible] aC
end Go.Sx
namespace Go.Sx
open Go Go.RowKit Go.Proofs
attribute [local irreducible] Code.wp wpList Rd iq ObS Ent
attribute [local irreducible] ar bS ao aR aG cX
def ch (f : Int) (g : Int) : Bool :=
 (f == g)
theorem jG (f : Int) (g : Int) (w0 : World) : Calls zP 372 #[(.agg #[]), (.int .i64 f), (.int .i64 g)] w0 (RetP w0 (.bool (ch f g)) (True)) := by
 refine enter (N := 10) Tryz.func372 rfl rfl ?_; intro ac h
 refine gz h <| (xb) fun b1 => (W) ?_; clear h; intro _ _ h
 exact (rt h) (h.retP (by unfold ch; rfl) trivial)
attribute [irreducible] ch
def bV (f : Int) (g : Int) (t : GR) : Bool :=
 (f == g)
theorem iG (f : Int) (g : Int) (t : GR) (zt : SzR 30 t) (w0 : World) : Calls zP 374 #[(.agg #[]), (.int .i64 f), (.int .i64 g), (vR t)] w0 (RetP w0 (.bool (bV f g t)) (True)) := by
 refine enter (N := 12) Tryz.func374 rfl rfl ?_; intro ac h
 refine gz h <| (xb) fun b1 => (xb) fun b2 => (W) ?_; clear h; intro _ _ h
 exact (rt h) (h.retP (by unfold bV; rfl) trivial)
attribute [irreducible] bV
def bp (f : Int) (t : GR) : Int :=
 f
theorem js (f : Int) (t : GR) (zt : SzR 30 t) (w0 : World) : Calls zP 373 #[(.agg #[]), (.int .i64 f), (vR t)] w0 (RetP w0 (.int .i64 (bp f t)) (True)) := by
 refine enter (N := 8) Tryz.func373 rfl rfl ?_; intro ac h
 refine gz h <| (xb) fun b1 => (xb) fun b2 => (W) ?_; clear h; intro _ _ h
 exact (rt h) (h.retP (by unfold bp; rfl) trivial)
attribute [irreducible] bp
end Go.Sx
namespace Go.Sx
open Go Go.RowKit Go.Proofs
attribute [local irreducible] Code.wp wpList Rd iq ObS Ent
attribute [local irreducible] ar bS ao aR aG cX
theorem jZ : SlT zP 57 176 21 224 (zc [2,2,2,2,1,2,2,2,2,1,1,1,3]) := ⟨nn57, Tryz.t176, _, Tryz.type176, rfl, rfl, rfl, rfl, rfl, by decide, by decide⟩
def bD (s : List (U Int)) : (List (U Int)) := s
theorem fU (s : List (U Int)) (sv : Value) (hl : s.length ≤ 1000) (zs : All (mh 30) s) (w0 : World) (hsv : View w0 sv s) : Calls zP 261 #[sv] w0 (RetR w0 176 (bD s) (All (mh 30) (bD s) ∧ (bD s) = s ∧ (bD s).length = s.length)) := by
 refine enter (N := 8) Tryz.func261 rfl rfl ?_; intro ac h
 have hlens := hsv.len
 refine gz h <| (xo (hs := by exact v7 nn57 hsv.sl rfl)) <| (ai) ?_ ?_ <;> clear h <;> intro _ _ h hc1
 ·
  have q := hc1; try simp at q
  refine gz h <| (W) ?_; clear h; intro _ _ h
  replace h := h.nilRow (α := U Int) 176
  have hd : bD s = [] := (hsv.nil hc1).1
  exact (rt h) (by rw [hd]; exact h.retR 0 rfl ⟨All.nil, ⟨(hsv.nil hc1).1.symm, by rw [(hsv.nil hc1).1]⟩⟩)
 ·
  have q := hc1; try simp at q
  refine gz h <| (W) ?_; clear h; intro _ _ h
  refine nw h (cj (α := U Int) (xs := []) (vs := []) [] jZ rfl rfl rfl DC) rfl ?_; clear h; intro sv2 _ _ nnsv2 h
  refine gz h <| (W) ?_; clear h; intro _ _ h
  refine on1 h 0 rfl (s_appV (xs := []) (ys := s) jZ hsv rfl rfl og) rfl ?_; clear h; intro sv3 _ _ apsv3 h
  exact (rx h) fun _ _ h => (by unfold bD; exact h.retR 0 rfl ⟨(All.app All.nil zs), ⟨rfl, rfl⟩⟩)
attribute [irreducible] bD
def ba (i : Iv) : Int :=
 bif i.openLo then
  1
 else
  0
theorem fI (i : Iv) (zi : SzV 30 i) (w0 : World) : Calls zP 264 #[(vV i)] w0 (RetP w0 (.int .i64 (ba i)) ((-1 ≤ (ba i) ∧ (ba i) ≤ 1))) := by
 refine enter (N := 5) Tryz.func264 rfl rfl ?_; intro ac h
 refine gz h <| (xb) fun b1 => (ai) ?_ ?_ <;> clear h <;> intro _ _ h hc1
 ·
  have q := hc1; try simp at q
  have hd : ba i = 1 := pt
  exact (rx h) fun _ _ h => (h.retP (by rw [hd] <;> rfl) (by rw [hd]; exact og))
 ·
  have q := hc1; try simp at q
  have hd : ba i = 0 := pt
  exact (rx h) fun _ _ h => (h.retP (by rw [hd] <;> rfl) (by rw [hd]; exact og))
attribute [irreducible] ba
def g9 (l : List (U Int)) (t : GR) : Bool :=
 (((decide ((l.length : Int) > 0)) && (decide (((gt l (l.length - 1)).iv).hi = t))) && (!((gt l (l.length - 1)).iv).openHi))
theorem k6 (l : List (U Int)) (lv : Value) (t : GR) (zl : All (mh 30) l) (zt : SzR 30 t) (w0 : World) (hlv : View w0 lv l) : Calls zP 204 #[lv, (vR t)] w0 (RetP w0 (.bool (g9 l t)) (True)) := by
 refine enter (N := 31) Tryz.func204 rfl rfl ?_; intro ac h
 have hlenl := hlv.len
 refine gz h <| (xb) fun b1 => (dr0 (hob := oE)) <| (W) ?_; clear h; intro _ _ h
 exact (rt h) (h.retP (by unfold g9; rfl) trivial)
attribute [irreducible] g9
def ja (l : List (U Int)) (x10 : Nat) (out : List (U Int)) : (List (U Int)) :=
 out
def d5 (l : List (U Int)) (x10 : Nat) (out : List (U Int)) : Nx (Nat × (List (U Int))) (List (U Int)) :=
 bif (decide ((x10 : Int) < (l.length : Int))) then
  bif (!((gt l x10).iv).openLo) then
   bif (aL ((gt l x10).iv)) then
    .go ((x10 + 1), (out ++ [(⟨(⟨((gt l x10).iv).lo, ((gt l x10).iv).lo, false, false⟩ : Iv), (gt l x10).f⟩ : U Int)]))
   else
    bif (!((gt l x10).iv).openHi) then
     .go ((x10 + 1), (((out ++ [(⟨(⟨((gt l x10).iv).lo, ((gt l x10).iv).lo, false, false⟩ : Iv), (gt l x10).f⟩ : U Int)]) ++ [(⟨(⟨((gt l x10).iv).lo, ((gt l x10).iv).hi, true, true⟩ : Iv), (gt l x10).f⟩ : U Int)]) ++ [(⟨(⟨((gt l x10).iv).hi, ((gt l x10).iv).hi, false, false⟩ : Iv), (gt l x10).f⟩ : U Int)]))
    else
     .go ((x10 + 1), ((out ++ [(⟨(⟨((gt l x10).iv).lo, ((gt l x10).iv).lo, false, false⟩ : Iv), (gt l x10).f⟩ : U Int)]) ++ [(⟨(⟨((gt l x10).iv).lo, ((gt l x10).iv).hi, true, true⟩ : Iv), (gt l x10).f⟩ : U Int)]))
  else
   bif (aL ((gt l x10).iv)) then
    .go ((x10 + 1), out)
   else
    bif (!((gt l x10).iv).openHi) then
     .go ((x10 + 1), ((out ++ [(⟨(⟨((gt l x10).iv).lo, ((gt l x10).iv).hi, true, true⟩ : Iv), (gt l x10).f⟩ : U Int)]) ++ [(⟨(⟨((gt l x10).iv).hi, ((gt l x10).iv).hi, false, false⟩ : Iv), (gt l x10).f⟩ : U Int)]))
    else
     .go ((x10 + 1), (out ++ [(⟨(⟨((gt l x10).iv).lo, ((gt l x10).iv).hi, true, true⟩ : Iv), (gt l x10).f⟩ : U Int)]))
 else
  .out (x10, out)
def aj (l : List (U Int)) : (List (U Int)) :=
 fin (bo (fun s => d5 l s.1 s.2) ((l.length - 0) + 1) (0, [])) (fun s => ja l s.1 s.2) (fun r => r)
theorem kE (l : List (U Int)) (lv : Value) (hl : l.length ≤ 1000) (zl : All (mh 30) l) (w0 : World) (hlv : View w0 lv l) : Calls zP 203 #[lv] w0 (RetR w0 176 (aj l) (All (mh 30) (aj l) ∧ (aj l).length ≤ 3 * l.length)) := by
 refine enter (N := 54) Tryz.func203 rfl rfl ?_; intro ac h
 have hlenl := hlv.len
 refine gz h <| (xa) fun b1 => (xo (hs := by exact mP rfl)) <| (W) ?_; clear h ac; intro ac wo h
 replace h := h.nilRow (α := U Int) 176
 obtain ⟨X1, hX1⟩ : ∃ X, bo (fun s => d5 l s.1 s.2) ((l.length - 0) + 1) (0, []) = X := ⟨_, rfl⟩
 refine wp_loop_ghost (fun n_ a_ w_ => ∃ (x10 : Nat) (out : List (U Int)) (outv : Value), ((l.length - x10) < n_) ∧ (bo (fun s => d5 l s.1 s.2) n_ (x10, out) = X1) ∧ (x10 ≤ l.length) ∧ (All (mh 30) out) ∧ (out.length ≤ 3 * x10) ∧ St w0 54 [(3, (ptr b1 0)), (4, (.func (.func 265) #[] #[(ptr b1 0)])), (8, lv), (9, (iN l.length)), (10, (iN x10))] [.row (α := U Int) 176 outv out, .blk b1 [outv] 57] a_ w_) ((l.length - 0) + 1) ⟨0, [], (.slice none 0 0), og, hX1, og, All.nil, og, h.rs⟩ ?_
 clear h ac wo; rintro n1 ac wo ⟨x10, out, outv, hm1, hL1, hx10, zout, hol, h⟩
 obtain ⟨m1, rfl⟩ : ∃ m, n1 = m + 1 := ⟨n1 - 1, by omega⟩
 refine gz h <| (ai) ?_ ?_ <;> clear h ac wo <;> intro ac wo h hc1
 ·
  have hd1 := of_decide_eq_true hc1
  refine gz h <| (xa) fun b2 => (ai) ?_ ?_ <;> clear h ac wo <;> intro ac wo h hc2
  ·
   have q := hc2; try simp at q
   refine gz h <| (W) ?_; clear h ac wo; intro ac wo h
   refine inl (vs := [(vR (((gt l x10).iv).lo)), (.int .i64 ((gt l x10).f)), (ptr b1 0)]) (M := 13) h (nA (vs := [(vR (((gt l x10).iv).lo)), (.int .i64 ((gt l x10).f))]) (cap := [(ptr b1 0)]) cc265 rfl rfl) Tryz.func265 rfl rfl rfl ?_
   clear h ac; intro R1 hR1 ac h
   refine gz h <| (xb) fun b3 => (xo (hs := by exact bM nD exs rfl (v := (vV (⟨((gt l x10).iv).lo, ((gt l x10).iv).lo, false, false⟩ : Iv))) rfl)) <| (xo (hs := by exact bM qM exs rfl (v := (vUI (⟨(⟨((gt l x10).iv).lo, ((gt l x10).iv).lo, false, false⟩ : Iv), (gt l x10).f⟩ : U Int))) rfl)) <| ?_; clear h ac wo; intro ac wo h
   refine nw h (cj (α := U Int) (xs := [.tmp 10]) (vs := [(vUI (⟨(⟨((gt l x10).iv).lo, ((gt l x10).iv).lo, false, false⟩ : Iv), (gt l x10).f⟩ : U Int))]) [(⟨(⟨((gt l x10).iv).lo, ((gt l x10).iv).lo, false, false⟩ : Iv), (gt l x10).f⟩ : U Int)] jZ rfl rfl rfl DC) rfl ?_; clear h ac wo; intro sv2 ac wo nnsv2 h
   refine on2 h 3 0 rfl rfl (er (xs := out) (ys := [(⟨(⟨((gt l x10).iv).lo, ((gt l x10).iv).lo, false, false⟩ : Iv), (gt l x10).f⟩ : U Int)]) jZ (fun w hs => (row_view hs 0 rfl)) rfl rfl og) rfl ?_; clear h ac wo; intro sv3 ac wo apsv3 h
   refine st h 4 [sv3] rfl zz57 rfl rfl (jR (h.row_sl 0 rfl)) rfl (na (h.row_sl 0 rfl)) rfl rfl ?_; clear h ac wo; intro ac wo h
   refine gz h <| (W) ?_; clear h ac wo; intro ac wo h
   refine nF (rs := []) (vs := []) h rfl .nil rfl (hR1 _ _ _ h.bel h.sep ?_)
   clear h ac hR1; intro ac h
   refine gz h <| (xk (cM ((gt l x10).iv))) <| (ai) ?_ ?_ <;> clear h ac wo <;> intro ac wo h hc3
   ·
    have q := hc3; try simp at q
    have hg := bq hL1 pt
    exact (nx h) fun _ _ h => by exact ⟨m1, og, _, _, _, og, hg, og, (All.app zout (All.cons ⟨(All.gt zl (dN _)).1, (All.gt zl (dN _)).1⟩ All.nil)), og, h.re [0, 4]⟩
   ·
    have q := hc3; try simp at q
    refine gz h <| (xo (hs := by exact bM nD exs rfl (v := (vV (⟨((gt l x10).iv).lo, ((gt l x10).iv).hi, true, true⟩ : Iv))) rfl)) <| (xo (hs := by exact bM qM exs rfl (v := (vUI (⟨(⟨((gt l x10).iv).lo, ((gt l x10).iv).hi, true, true⟩ : Iv), (gt l x10).f⟩ : U Int))) rfl)) <| ?_; clear h ac wo; intro ac wo h
    refine nw h (cj (α := U Int) (xs := [.tmp 38]) (vs := [(vUI (⟨(⟨((gt l x10).iv).lo, ((gt l x10).iv).hi, true, true⟩ : Iv), (gt l x10).f⟩ : U Int))]) [(⟨(⟨((gt l x10).iv).lo, ((gt l x10).iv).hi, true, true⟩ : Iv), (gt l x10).f⟩ : U Int)] jZ rfl rfl rfl DC) rfl ?_; clear h ac wo; intro sv4 ac wo nnsv4 h
    refine on2 h 1 0 rfl rfl (er (xs := (out ++ [(⟨(⟨((gt l x10).iv).lo, ((gt l x10).iv).lo, false, false⟩ : Iv), (gt l x10).f⟩ : U Int)])) (ys := [(⟨(⟨((gt l x10).iv).lo, ((gt l x10).iv).hi, true, true⟩ : Iv), (gt l x10).f⟩ : U Int)]) jZ (fun w hs => (row_view hs 0 rfl)) rfl rfl og) rfl ?_; clear h ac wo; intro sv5 ac wo apsv5 h
    refine st h 5 [sv5] rfl zz57 rfl rfl (jR (h.row_sl 0 rfl)) rfl (na (h.row_sl 0 rfl)) rfl rfl ?_; clear h ac wo; intro ac wo h
    refine gz h <| (ai) ?_ ?_ <;> clear h ac wo <;> intro ac wo h hc4
    ·
     have q := hc4; try simp at q
     refine gz h <| (W) ?_; clear h ac wo; intro ac wo h
     refine inl (vs := [(vR (((gt l x10).iv).hi)), (.int .i64 ((gt l x10).f)), (ptr b1 0)]) (M := 13) h (nA (vs := [(vR (((gt l x10).iv).hi)), (.int .i64 ((gt l x10).f))]) (cap := [(ptr b1 0)]) cc265 rfl rfl) Tryz.func265 rfl rfl rfl ?_
     clear h ac; intro R2 hR2 ac h
     refine gz h <| (xb) fun b4 => (xo (hs := by exact bM nD exs rfl (v := (vV (⟨((gt l x10).iv).hi, ((gt l x10).iv).hi, false, false⟩ : Iv))) rfl)) <| (xo (hs := by exact bM qM exs rfl (v := (vUI (⟨(⟨((gt l x10).iv).hi, ((gt l x10).iv).hi, false, false⟩ : Iv), (gt l x10).f⟩ : U Int))) rfl)) <| ?_; clear h ac wo; intro ac wo h
     refine nw h (cj (α := U Int) (xs := [.tmp 10]) (vs := [(vUI (⟨(⟨((gt l x10).iv).hi, ((gt l x10).iv).hi, false, false⟩ : Iv), (gt l x10).f⟩ : U Int))]) [(⟨(⟨((gt l x10).iv).hi, ((gt l x10).iv).hi, false, false⟩ : Iv), (gt l x10).f⟩ : U Int)] jZ rfl rfl rfl DC) rfl ?_; clear h ac wo; intro sv6 ac wo nnsv6 h
     refine on2 h 2 0 rfl rfl (er (xs := ((out ++ [(⟨(⟨((gt l x10).iv).lo, ((gt l x10).iv).lo, false, false⟩ : Iv), (gt l x10).f⟩ : U Int)]) ++ [(⟨(⟨((gt l x10).iv).lo, ((gt l x10).iv).hi, true, true⟩ : Iv), (gt l x10).f⟩ : U Int)])) (ys := [(⟨(⟨((gt l x10).iv).hi, ((gt l x10).iv).hi, false, false⟩ : Iv), (gt l x10).f⟩ : U Int)]) jZ (fun w hs => (row_view hs 0 rfl)) rfl rfl og) rfl ?_; clear h ac wo; intro sv7 ac wo apsv7 h
     refine st h 7 [sv7] rfl zz57 rfl rfl (jR (h.row_sl 0 rfl)) rfl (na (h.row_sl 0 rfl)) rfl rfl ?_; clear h ac wo; intro ac wo h
     refine gz h <| (W) ?_; clear h ac wo; intro ac wo h
     refine nF (rs := []) (vs := []) h rfl .nil rfl (hR2 _ _ _ h.bel h.sep ?_)
     clear h ac hR2; intro ac h
     have hg := bq hL1 pt
     exact (nx h) fun _ _ h => by exact ⟨m1, og, _, _, _, og, hg, og, (All.app (All.app (All.app zout (All.cons ⟨(All.gt zl (dN _)).1, (All.gt zl (dN _)).1⟩ All.nil)) (All.cons ⟨(All.gt zl (dN _)).1, (All.gt zl (dN _)).2⟩ All.nil)) (All.cons ⟨(All.gt zl (dN _)).2, (All.gt zl (dN _)).2⟩ All.nil)), og, h.re [0, 7]⟩
    ·
     have q := hc4; try simp at q
     have hg := bq hL1 pt
     exact (nx h) fun _ _ h => by exact ⟨m1, og, _, _, _, og, hg, og, (All.app (All.app zout (All.cons ⟨(All.gt zl (dN _)).1, (All.gt zl (dN _)).1⟩ All.nil)) (All.cons ⟨(All.gt zl (dN _)).1, (All.gt zl (dN _)).2⟩ All.nil)), og, h.re [0, 5]⟩
  ·
   have q := hc2; try simp at q
   refine gz h <| (xk (cM ((gt l x10).iv))) <| (ai) ?_ ?_ <;> clear h ac wo <;> intro ac wo h hc5
   ·
    have q := hc5; try simp at q
    have hg := bq hL1 pt
    exact (nx h) fun _ _ h => by exact ⟨m1, og, _, _, _, og, hg, og, zout, og, h.re [1, 2]⟩
   ·
    have q := hc5; try simp at q
    refine gz h <| (xo (hs := by exact bM nD exs rfl (v := (vV (⟨((gt l x10).iv).lo, ((gt l x10).iv).hi, true, true⟩ : Iv))) rfl)) <| (xo (hs := by exact bM qM exs rfl (v := (vUI (⟨(⟨((gt l x10).iv).lo, ((gt l x10).iv).hi, true, true⟩ : Iv), (gt l x10).f⟩ : U Int))) rfl)) <| ?_; clear h ac wo; intro ac wo h
    refine nw h (cj (α := U Int) (xs := [.tmp 38]) (vs := [(vUI (⟨(⟨((gt l x10).iv).lo, ((gt l x10).iv).hi, true, true⟩ : Iv), (gt l x10).f⟩ : U Int))]) [(⟨(⟨((gt l x10).iv).lo, ((gt l x10).iv).hi, true, true⟩ : Iv), (gt l x10).f⟩ : U Int)] jZ rfl rfl rfl DC) rfl ?_; clear h ac wo; intro sv8 ac wo nnsv8 h
    refine on2 h 2 0 rfl rfl (er (xs := out) (ys := [(⟨(⟨((gt l x10).iv).lo, ((gt l x10).iv).hi, true, true⟩ : Iv), (gt l x10).f⟩ : U Int)]) jZ (fun w hs => (row_view hs 0 rfl)) rfl rfl og) rfl ?_; clear h ac wo; intro sv9 ac wo apsv9 h
    refine st h 3 [sv9] rfl zz57 rfl rfl (jR (h.row_sl 0 rfl)) rfl (na (h.row_sl 0 rfl)) rfl rfl ?_; clear h ac wo; intro ac wo h
    refine gz h <| (ai) ?_ ?_ <;> clear h ac wo <;> intro ac wo h hc6
    ·
     have q := hc6; try simp at q
     refine gz h <| (W) ?_; clear h ac wo; intro ac wo h
     refine inl (vs := [(vR (((gt l x10).iv).hi)), (.int .i64 ((gt l x10).f)), (ptr b1 0)]) (M := 13) h (nA (vs := [(vR (((gt l x10).iv).hi)), (.int .i64 ((gt l x10).f))]) (cap := [(ptr b1 0)]) cc265 rfl rfl) Tryz.func265 rfl rfl rfl ?_
     clear h ac; intro R3 hR3 ac h
     refine gz h <| (xb) fun b5 => (xo (hs := by exact bM nD exs rfl (v := (vV (⟨((gt l x10).iv).hi, ((gt l x10).iv).hi, false, false⟩ : Iv))) rfl)) <| (xo (hs := by exact bM qM exs rfl (v := (vUI (⟨(⟨((gt l x10).iv).hi, ((gt l x10).iv).hi, false, false⟩ : Iv), (gt l x10).f⟩ : U Int))) rfl)) <| ?_; clear h ac wo; intro ac wo h
     refine nw h (cj (α := U Int) (xs := [.tmp 10]) (vs := [(vUI (⟨(⟨((gt l x10).iv).hi, ((gt l x10).iv).hi, false, false⟩ : Iv), (gt l x10).f⟩ : U Int))]) [(⟨(⟨((gt l x10).iv).hi, ((gt l x10).iv).hi, false, false⟩ : Iv), (gt l x10).f⟩ : U Int)] jZ rfl rfl rfl DC) rfl ?_; clear h ac wo; intro sv10 ac wo nnsv10 h
     refine on2 h 2 0 rfl rfl (er (xs := (out ++ [(⟨(⟨((gt l x10).iv).lo, ((gt l x10).iv).hi, true, true⟩ : Iv), (gt l x10).f⟩ : U Int)])) (ys := [(⟨(⟨((gt l x10).iv).hi, ((gt l x10).iv).hi, false, false⟩ : Iv), (gt l x10).f⟩ : U Int)]) jZ (fun w hs => (row_view hs 0 rfl)) rfl rfl og) rfl ?_; clear h ac wo; intro sv11 ac wo apsv11 h
     refine st h 5 [sv11] rfl zz57 rfl rfl (jR (h.row_sl 0 rfl)) rfl (na (h.row_sl 0 rfl)) rfl rfl ?_; clear h ac wo; intro ac wo h
     refine gz h <| (W) ?_; clear h ac wo; intro ac wo h
     refine nF (rs := []) (vs := []) h rfl .nil rfl (hR3 _ _ _ h.bel h.sep ?_)
     clear h ac hR3; intro ac h
     have hg := bq hL1 pt
     exact (nx h) fun _ _ h => by exact ⟨m1, og, _, _, _, og, hg, og, (All.app (All.app zout (All.cons ⟨(All.gt zl (dN _)).1, (All.gt zl (dN _)).2⟩ All.nil)) (All.cons ⟨(All.gt zl (dN _)).2, (All.gt zl (dN _)).2⟩ All.nil)), og, h.re [0, 5]⟩
    ·
     have q := hc6; try simp at q
     have hg := bq hL1 pt
     exact (nx h) fun _ _ h => by exact ⟨m1, og, _, _, _, og, hg, og, (All.app zout (All.cons ⟨(All.gt zl (dN _)).1, (All.gt zl (dN _)).2⟩ All.nil)), og, h.re [0, 3]⟩
 ·
  have hd1 := of_decide_eq_false hc1
  have hx1 := ck hL1 pt
  have hd : aj l = out := pt
  exact (rx h) fun _ _ h => (by rw [hd]; exact h.retR 0 rfl ⟨zout, og⟩)
attribute [irreducible] aj
end Go.Sx
namespace Go.Sx
open Go Go.RowKit Go.Proofs
attribute [local irreducible] Code.wp wpList Rd iq ObS Ent
attribute [local irreducible] ar bS ao aR aG cX
def xC (x : List Int) (x8 : Nat) : Int :=
 0
def lM (x : List Int) (x8 : Nat) : Nx Nat Int :=
 bif (decide ((x8 : Int) < (x.length : Int))) then
  bif ((gt x x8) != 0) then
   .ret (gt x x8)
  else
   .go (x8 + 1)
 else
  .out x8
def mK (x : List Int) : Int :=
 fin (bo (fun s => lM x s) ((x.length - 0) + 1) 0) (fun s => xC x s) (fun r => r)
theorem sL (x : List Int) (xv : Value) (w0 : World) (hxv : View w0 xv x) : Calls zP 227 #[xv] w0 (RetP w0 (.int .i64 (mK x)) (True)) := by
 refine enter (N := 18) Tryz.func227 rfl rfl ?_; intro ac h
 have hlenx := hxv.len
 obtain ⟨X1, hX1⟩ : ∃ X, bo (fun s => lM x s) ((x.length - 0) + 1) 0 = X := ⟨_, rfl⟩
 refine gz h <| (W) ?_; clear h; intro _ _ h
 refine wp_loop_ghost (fun n_ a_ w_ => ∃ (x8 : Nat), ((x.length - x8) < n_) ∧ (bo (fun s => lM x s) n_ x8 = X1) ∧ (x8 ≤ x.length) ∧ St w0 18 [(3, (.int .i64 0)), (6, xv), (7, (iN x.length)), (8, (iN x8))] [] a_ w_) ((x.length - 0) + 1) ⟨0, og, hX1, og, h.rs⟩ ?_
 clear h; rintro n1 _ _ ⟨x8, hm1, hL1, hx8, h⟩
 obtain ⟨m1, rfl⟩ : ∃ m, n1 = m + 1 := ⟨n1 - 1, by omega⟩
 refine gz h <| (ai) ?_ ?_ <;> clear h <;> intro _ _ h hc1
 ·
  have hd1 := of_decide_eq_true hc1
  refine gz h <| (ai) ?_ ?_ <;> clear h <;> intro _ _ h hc2
  ·
   have q := hc2; try simp at q
   have hr1 := fR hL1 pt
   have hd : mK x = (gt x x8) := pt
   exact (rx h) fun _ _ h => (h.retP (by rw [hd] <;> rfl) trivial)
  ·
   have q := hc2; try simp at q
   have hg := bq hL1 pt
   exact (nx h) fun _ _ h => by exact ⟨m1, og, _, og, hg, og, h.re []⟩
 ·
  have hd1 := of_decide_eq_false hc1
  have hx1 := ck hL1 pt
  have hd : mK x = 0 := pt
  exact (rx h) fun _ _ h => (h.retP (by rw [hd] <;> rfl) trivial)
attribute [irreducible] mK
def eI (a : U Int) (b : U Int) : Int :=
 (mK ([(ar a.iv.lo b.iv.lo), (cX (ba a.iv) (ba b.iv)), (ar a.iv.hi b.iv.hi)]))
theorem mb (a : U Int) (b : U Int) (za : mh 30 a) (zb : mh 30 b) (w0 : World) : Calls zP 263 #[(vUI a), (vUI b)] w0 (RetP w0 (.int .i64 (eI a b)) (True)) := by
 refine enter (N := 31) Tryz.func263 rfl rfl ?_; intro ac h
 have p2 := aA ((aO a.iv.lo b.iv.lo 10 og za.1 zb.1) w0)
 refine gz h <| (xb) fun b1 => (xb) fun b2 => (W) ?_; clear h ac; intro ac wo h
 have s3 := Calls.pr ((fun w_ hB_ hS_ => fI a.iv za w_ ) _ h.bel h.sep)
 have p4 := s3
 have s5 := Calls.pr ((fun w_ hB_ hS_ => fI b.iv zb w_ ) _ h.bel h.sep)
 have p6 := s5
 have p8 := aA ((j9 (ba a.iv) (ba b.iv)) w0)
 have p10 := aA ((aO a.iv.hi b.iv.hi 10 og za.2 zb.2) w0)
 replace h := h.emps 1
 refine gm mixed [dv _, dv _, dw _ [1], dv _, dv _, dw _ [0], dv _, dv _, dv _, dw _ [1], dv _, dv _, dv _, dw _ [0], dv _, dv _, dv _, dv _, dw _ [1], dv _, dv _, dw _ [0], dv _, ⟨.nd (.one 23 fun v => NN v 3), [2]⟩, dw _ [2], dv _] [⟨_, []⟩, ⟨_, []⟩, ⟨.emp, [(23, .one 23 fun v => .row (α := Int) 3 v ([(ar a.iv.lo b.iv.lo), (cX (ba a.iv) (ba b.iv)), (ar a.iv.hi b.iv.hi)]))]⟩] h rfl (by kernel_rfl) ⟨fun _ _ => a6 (fa uu176 rfl zz86 rfl rfl rfl (k' := 0)), fun _ _ => a6 (fa uu86 rfl zz71 rfl rfl rfl (k' := 0)), fun _ _ => iM _ rfl rfl (iB aa71 zz71 rfl rfl rfl (v := (vR a.iv.lo)) rfl), fun _ _ => a6 (fa uu176 rfl zz86 rfl rfl rfl (k' := 0)), fun _ _ => a6 (fa uu86 rfl zz71 rfl rfl rfl (k' := 0)), fun _ _ => iM _ rfl rfl (iB aa71 zz71 rfl rfl rfl (v := (vR b.iv.lo)) rfl), fun _ _ => kd (eV (cB Tryz.call127 rfl) (kk (aO a.iv.lo b.iv.lo 10 og za.1 zb.1))), fun _ _ => om rfl, fun _ _ => a6 (fa uu176 rfl zz86 rfl rfl rfl (k' := 0)), fun _ _ => iM _ rfl rfl (iB aa86 zz86 rfl rfl rfl (v := (vV a.iv)) rfl), fun _ _ => kd (eV (nA (cap := []) Tryz.call264 rfl rfl) (kk (fI a.iv za))), fun _ _ => om rfl, fun _ _ => a6 (fa uu176 rfl zz86 rfl rfl rfl (k' := 0)), fun _ _ => iM _ rfl rfl (iB aa86 zz86 rfl rfl rfl (v := (vV b.iv)) rfl), fun _ _ => kd (eV (nA (cap := []) Tryz.call264 rfl rfl) (kk (fI b.iv zb))), fun _ _ => kd (eV (cB Tryz.call228 rfl) (kk (j9 (ba a.iv) (ba b.iv)))), fun _ _ => a6 (fa uu176 rfl zz86 rfl rfl rfl (k' := 0)), fun _ _ => a6 (fa uu86 rfl zz71 rfl rfl rfl (k' := 9)), fun _ _ => iM _ rfl rfl (iB aa71 zz71 rfl rfl rfl (v := (vR a.iv.hi)) rfl), fun _ _ => a6 (fa uu176 rfl zz86 rfl rfl rfl (k' := 0)), fun _ _ => a6 (fa uu86 rfl zz71 rfl rfl rfl (k' := 9)), fun _ _ => iM _ rfl rfl (iB aa71 zz71 rfl rfl rfl (v := (vR b.iv.hi)) rfl), fun _ _ => kd (eV (cB Tryz.call127 rfl) (kk (aO a.iv.hi b.iv.hi 10 og za.2 zb.2))), fun _ _ => ls (ψ := fun v => NN v 3) (B := fun v => [.row (α := Int) 3 v ([(ar a.iv.lo b.iv.lo), (cX (ba a.iv) (ba b.iv)), (ar a.iv.hi b.iv.hi)])]) [.emp] rfl (fun v _ => by simp only [dJ, bm] <;> rfl) (fun v hv => by simpa [DF.one, bm] using hv) (jo (cj (α := Int) (xs := [.tmp 12, .tmp 21, .tmp 28]) (vs := [(.int .i64 (ar a.iv.lo b.iv.lo)), (.int .i64 (cX (ba a.iv) (ba b.iv))), (.int .i64 (ar a.iv.hi b.iv.hi))]) [(ar a.iv.lo b.iv.lo), (cX (ba a.iv) (ba b.iv)), (ar a.iv.hi b.iv.hi)] vH rfl rfl rfl DC)), fun ξ hφ => mR _ [.row (α := Int) 3 (ξ 23) ([(ar a.iv.lo b.iv.lo), (cX (ba a.iv) (ba b.iv)), (ar a.iv.hi b.iv.hi)])] rfl rfl (eV (cB Tryz.call227 rfl) (fun w_ hB_ hS_ => sL ([(ar a.iv.lo b.iv.lo), (cX (ba a.iv) (ba b.iv)), (ar a.iv.hi b.iv.hi)]) (ξ 23) w_ (row_view hS_ 0 rfl))), fun _ _ => a6 (az rfl), trivial⟩ ?_
 clear h ac wo; intro ξ ac wo hφ h
 replace h : St w0 31 [(4, (.int .i64 (mK ([(ar a.iv.lo b.iv.lo), (cX (ba a.iv) (ba b.iv)), (ar a.iv.hi b.iv.hi)]))))] [.blk b2 (cUI b) 176, .blk b1 (cUI a) 176] ac wo := (h.pick [0, 1] DC).sub ⟨rfl, trivial⟩
 clear hφ ξ
 exact (rx h) fun _ _ h => (h.retP (by unfold eI; rfl) trivial)
attribute [irreducible] eI
def jm (data : List (U Int)) (a : Nat) (b : Nat) (i : Nat) (data1 : List (U Int)) : List (U Int) :=
 data1
def jl (data : List (U Int)) (a : Nat) (b : Nat) (i : Nat) (data1 : List (U Int)) (j : Nat) (data2 : List (U Int)) : Nx (Nat × (List (U Int))) (List (U Int)) :=
 .go ((i + 1), data2)
def eP (data : List (U Int)) (a : Nat) (b : Nat) (i : Nat) (data1 : List (U Int)) (j : Nat) (data2 : List (U Int)) : Nx (Nat × (List (U Int))) (List (U Int)) :=
 bif ((decide ((j : Int) > (a : Int))) && (decide ((eI (gt data2 j) (gt data2 (j - 1))) < 0))) then
  .go ((j - 1), ((data2.set j (gt data2 (j - 1))).set (j - 1) (gt data2 j)))
 else
  .out (j, data2)
def eQ (data : List (U Int)) (a : Nat) (b : Nat) (i : Nat) (data1 : List (U Int)) : Nx (Nat × (List (U Int))) (List (U Int)) :=
 bif (decide ((i : Int) < (b : Int))) then
  fin (bo (fun s => eP data a b i data1 s.1 s.2) (i + 1) (i, data1)) (fun s => jl data a b i data1 s.1 s.2) (fun r => .ret r)
 else
  .out (i, data1)
def bO (data : List (U Int)) (a : Nat) (b : Nat) : List (U Int) :=
 fin (bo (fun s => eQ data a b s.1 s.2) ((b + 1 - (a + 1)) + 1) ((a + 1), data)) (fun s => jm data a b s.1 s.2) (fun r => r)
theorem jk (data : List (U Int)) (datav : Value) (a : Nat) (b : Nat) (hab : a ≤ b) (hb : b ≤ data.length) (hb2 : b ≤ 1000) (zdata : All (mh 30) data) (w0 w : World) (B : Asn) (hbel : Below w0.heap.size w0 w) (hsep : ∃ Z_, Sep w0.heap.size w [.row (α := U Int) 176 datav data, B] Z_) : Calls zP 312 #[datav, (iN a), (iN b), (.func (.func 263) #[] #[])] w (RetY w0 (fun v => v = .tuple #[] ∧ (All (mh 30) (bO data a b) ∧ (bO data a b).length = data.length)) (fun v => [.row (α := U Int) 176 datav (bO data a b), B])) := by
 refine l6 (N := 53) Tryz.func312 rfl rfl hbel hsep ?_; intro ac h
 have hlendata := h.len 0 rfl
 obtain ⟨X1, hX1⟩ : ∃ X, bo (fun s => eQ data a b s.1 s.2) ((b + 1 - (a + 1)) + 1) ((a + 1), data) = X := ⟨_, rfl⟩
 refine gz h <| (W) ?_; clear h; intro _ _ h
 refine wp_loop_ghost (fun n_ a_ w_ => ∃ (i : Nat) (data1 : List (U Int)), ((b + 1 - i) < n_) ∧ (bo (fun s => eQ data a b s.1 s.2) n_ (i, data1) = X1) ∧ (i ≤ b + 1) ∧ (All (mh 30) data1) ∧ (data1.length = data.length) ∧ St w0 53 [(0, datav), (1, (iN a)), (2, (iN b)), (3, (.func (.func 263) #[] #[])), (8, (iN i))] [.row (α := U Int) 176 datav data1, B] a_ w_) ((b + 1 - (a + 1)) + 1) ⟨(a + 1), data, og, hX1, og, zdata, og, h.rs⟩ ?_
 clear h; rintro n1 _ _ ⟨i, data1, hm1, hL1, hi, zdata1, hdl, h⟩
 obtain ⟨m1, rfl⟩ : ∃ m, n1 = m + 1 := ⟨n1 - 1, by omega⟩
 refine gz h <| (ai) ?_ ?_ <;> clear h <;> intro _ _ h hc1
 ·
  have hd1 := of_decide_eq_true hc1
  obtain ⟨X2, hX2⟩ : ∃ X, bo (fun s => eP data a b i data1 s.1 s.2) (i + 1) (i, data1) = X := ⟨_, rfl⟩
  refine gz h <| (W) ?_; clear h; intro _ _ h
  refine wp_loop_ghost (fun n_ a_ w_ => ∃ (j : Nat) (data2 : List (U Int)), (j < n_) ∧ (bo (fun s => eP data a b i data1 s.1 s.2) n_ (j, data2) = X2) ∧ (All (mh 30) data2) ∧ (j ≤ i) ∧ (data2.length = data.length) ∧ St w0 53 [(0, datav), (1, (iN a)), (2, (iN b)), (3, (.func (.func 263) #[] #[])), (8, (iN i)), (9, (iN j))] [.row (α := U Int) 176 datav data2, B] a_ w_) (i + 1) ⟨i, data1, og, hX2, zdata1, og, og, h.rs⟩ ?_
  clear h; rintro n2 _ _ ⟨j, data2, hm2, hL2, zdata2, hj, hdl2, h⟩
  obtain ⟨m2, rfl⟩ : ∃ m, n2 = m + 1 := ⟨n2 - 1, by omega⟩
  refine gz h <| (dr0 (hob := (oG (by exact fun hg => mb (gt data2 j) (gt data2 (j - 1)) (All.gt zdata2 (dN _)) (All.gt zdata2 (dN _)))) <| oE)) <| (ai) ?_ ?_ <;> clear h <;> intro _ _ h hc2
  ·
   have q := hc2; try simp at q
   refine gz h <| (dr1 (H := [⟨.row (α := U Int) 176 datav data2, [(15, .con (.row (α := U Int) 176 datav (data2.set j (gt data2 (j - 1))))), (17, .con (.row (α := U Int) 176 datav ((data2.set j (gt data2 (j - 1))).set (j - 1) (gt data2 j))))]⟩, ⟨_, []⟩]) (hob := (oY (h := by exact fun _ => mR (acc := [0]) _ [.row (α := U Int) 176 datav (data2.set j (gt data2 (j - 1)))] rfl rfl (gX (k := 0) (u' := (gt data2 (j - 1))) Tryz.sizeOf176 (dM og) rfl (Nat.add_zero _) rfl rfl rfl rfl rfl rfl))) <| (oY (h := by exact fun _ => mR (acc := [0]) _ [.row (α := U Int) 176 datav ((data2.set j (gt data2 (j - 1))).set (j - 1) (gt data2 j))] rfl rfl (gX (k := 0) (u' := (gt data2 j)) Tryz.sizeOf176 (dM og) rfl (Nat.add_zero _) rfl rfl rfl rfl rfl rfl))) <| oE)) <| (W) ?_; clear h; intro _ _ h
   have hg := bq hL2 pt
   exact aE ⟨m2, og, _, _, og, hg, (All.set (All.set zdata2 (All.gt zdata2 (dN _))) (All.gt zdata2 (dN _))), og, og, h.re [0, 1]⟩
  ·
   have q := hc2; try simp at q
   have hx2 := ck hL2 pt
   have hg := bq hL1 pt
   exact (nx h) fun _ _ h => by exact ⟨m1, og, _, _, og, hg, og, zdata2, og, h.re [0, 1]⟩
 ·
  have hd1 := of_decide_eq_false hc1
  have hx1 := ck hL1 pt
  have hd : bO data a b = data1 := pt
  refine gz h <| (W) ?_; clear h; intro _ _ h
  exact nF (vs := []) h rfl .nil rfl ((h.pick [0, 1] DC).retY ⟨rfl, (by rw [hd]; exact ⟨zdata1, og⟩)⟩ (by rw [hd]; rfl))
attribute [irreducible] bO
def ky (data : List (U Int)) (n : Nat) (a : Nat) (b : Nat) (data1 : List (U Int)) (blockSize : Nat) : List (U Int) :=
 (bO data1 a n)
def eT (data : List (U Int)) (n : Nat) (a : Nat) (b : Nat) (data1 : List (U Int)) (blockSize : Nat) : Nx Nat (List (U Int)) :=
 .out blockSize
def kz (data : List (U Int)) (n : Nat) (a : Nat) (b : Nat) (data1 : List (U Int)) : List (U Int) :=
 fin (bo (fun s => eT data n a b data1 s) (0 + 1) 20) (fun s => ky data n a b data1 s) (fun r => r)
def eU (data : List (U Int)) (n : Nat) (a : Nat) (b : Nat) (data1 : List (U Int)) : Nx (Nat × Nat × (List (U Int))) (List (U Int)) :=
 .out (a, b, data1)
def cK (data : List (U Int)) (n : Nat) : List (U Int) :=
 fin (bo (fun s => eU data n s.1 s.2.1 s.2.2) (0 + 1) (0, 20, data)) (fun s => kz data n s.1 s.2.1 s.2.2) (fun r => r)
theorem kx (data : List (U Int)) (datav : Value) (n : Nat) (hn : n = data.length) (hl : data.length < 20) (zdata : All (mh 30) data) (w0 w : World) (B : Asn) (hbel : Below w0.heap.size w0 w) (hsep : ∃ Z_, Sep w0.heap.size w [.row (α := U Int) 176 datav data, B] Z_) : Calls zP 290 #[datav, (iN n), (.func (.func 263) #[] #[])] w (RetY w0 (fun v => v = .tuple #[] ∧ (All (mh 30) (cK data n) ∧ (cK data n).length = data.length)) (fun v => [.row (α := U Int) 176 datav (cK data n), B])) := by
 refine l6 (N := 63) Tryz.func290 rfl rfl hbel hsep ?_; intro ac h
 have hlendata := h.len 0 rfl
 obtain ⟨X1, hX1⟩ : ∃ X, bo (fun s => eU data n s.1 s.2.1 s.2.2) (0 + 1) (0, 20, data) = X := ⟨_, rfl⟩
 refine gz h <| (W) ?_; clear h; intro _ _ h
 refine wp_loop_ghost (fun n_ a_ w_ => ∃ (a : Nat) (b : Nat) (data1 : List (U Int)), (0 < n_) ∧ (bo (fun s => eU data n s.1 s.2.1 s.2.2) n_ (a, b, data1) = X1) ∧ (All (mh 30) data1) ∧ (a = 0) ∧ (b = 20) ∧ (data1.length = data.length) ∧ St w0 63 [(0, datav), (1, (iN n)), (2, (.func (.func 263) #[] #[])), (6, (.int .i64 20)), (7, (iN a)), (8, (iN b))] [.row (α := U Int) 176 datav data1, B] a_ w_) (0 + 1) ⟨0, 20, data, og, hX1, zdata, og, og, og, h.rs⟩ ?_
 clear h; rintro n1 _ _ ⟨a, b, data1, hm1, hL1, zdata1, ha0, hb0, hdl, h⟩
 obtain ⟨m1, rfl⟩ : ∃ m, n1 = m + 1 := ⟨n1 - 1, by omega⟩
 refine gz h <| (W) ?_; clear h; intro _ _ h
 refine p7 h rfl ?_ (decide_eq_false og)
 have hx1 := ck hL1 (show eU data n a b data1 = .out (a, b, data1) from rfl)
 refine gz h <| (W) ?_; clear h; intro _ _ h
 refine on1 h 0 rfl (jn (vs := [datav, (iN a), (iN n), (.func (.func 263) #[] #[])]) (A := fun v => [.row (α := U Int) 176 datav (bO data1 a n)]) (cB Tryz.call312 rfl) (fun w_ B_ hB_ hS_ => jk data1 datav a n og og og zdata1 w0 w_ B_ hB_ hS_ )) rfl ?_; clear h; intro vc _ _ s2 h
 obtain rfl : vc = _ := s2.1
 have p3 := s2.2.2
 obtain ⟨X2, hX2⟩ : ∃ X, bo (fun s => eT data n a b data1 s) (0 + 1) 20 = X := ⟨_, rfl⟩
 refine gz h <| (W) ?_; clear h; intro _ _ h
 refine wp_loop_ghost (fun n_ a_ w_ => ∃ (blockSize : Nat), (0 < n_) ∧ (bo (fun s => eT data n a b data1 s) n_ blockSize = X2) ∧ (blockSize = 20) ∧ St w0 63 [(0, datav), (1, (iN n)), (2, (.func (.func 263) #[] #[])), (6, (iN blockSize))] [.row (α := U Int) 176 datav (bO data1 a n), B] a_ w_) (0 + 1) ⟨20, og, hX2, og, h.rs⟩ ?_
 clear h; rintro n2 _ _ ⟨blockSize, hm2, hL2, hbs, h⟩
 obtain ⟨m2, rfl⟩ : ∃ m, n2 = m + 1 := ⟨n2 - 1, by omega⟩
 refine gz h <| (W) ?_; clear h; intro _ _ h
 refine p7 h rfl ?_ (decide_eq_false og)
 have hx2 := ck hL2 (show eT data n a b data1 blockSize = .out blockSize from rfl)
 have hd : cK data n = (bO data1 a n) := pt
 refine gz h <| (W) ?_; clear h; intro _ _ h
 exact nF (vs := []) h rfl .nil rfl ((h.pick [0, 1] DC).retY ⟨rfl, (by rw [hd]; exact ⟨s2.2.1, og⟩)⟩ (by rw [hd]; rfl))
attribute [irreducible] cK
def bL (x : List (U Int)) : List (U Int) :=
 (cK x x.length)
theorem ia (x : List (U Int)) (xv : Value) (hl : x.length < 20) (zx : All (mh 30) x) (w0 w : World) (B : Asn) (hbel : Below w0.heap.size w0 w) (hsep : ∃ Z_, Sep w0.heap.size w [.row (α := U Int) 176 xv x, B] Z_) : Calls zP 262 #[xv, (.func (.func 263) #[] #[])] w (RetY w0 (fun v => v = .tuple #[] ∧ (All (mh 30) (bL x) ∧ (bL x).length = x.length)) (fun v => [.row (α := U Int) 176 xv (bL x), B])) := by
 refine l6 (N := 9) Tryz.func262 rfl rfl hbel hsep ?_; intro ac h
 have hlenx := h.len 0 rfl
 refine gz h <| (W) ?_; clear h; intro _ _ h
 refine on1 h 0 rfl (jn (vs := [xv, (iN x.length), (.func (.func 263) #[] #[])]) (A := fun v => [.row (α := U Int) 176 xv (cK x x.length)]) (cB Tryz.call290 rfl) (fun w_ B_ hB_ hS_ => kx x xv x.length og og zx w0 w_ B_ hB_ hS_ )) rfl ?_; clear h; intro vc _ _ s2 h
 obtain rfl : vc = _ := s2.1
 have p3 := s2.2.2
 have hd : bL x = (cK x x.length) := rfl
 refine gz h <| (W) ?_; clear h; intro _ _ h
 exact nF (vs := []) h rfl .nil rfl ((h.pick [0, 1] DC).retY ⟨rfl, (by rw [hd]; exact ⟨s2.2.1, og⟩)⟩ (by rw [hd]; rfl))
attribute [irreducible] bL
def ah (l : List (U Int)) : (List (U Int)) :=
 (bL (bD l))
theorem ke (l : List (U Int)) (lv : Value) (hl : l.length < 20) (zl : All (mh 30) l) (w0 : World) (hlv : View w0 lv l) : Calls zP 202 #[lv] w0 (RetR w0 176 (ah l) (All (mh 30) (ah l) ∧ (ah l).length = l.length)) := by
 refine enter (N := 9) Tryz.func202 rfl rfl ?_; intro ac h
 have hlenl := hlv.len
 refine gz h <| (W) ?_; clear h; intro _ _ h
 have s1 := RetR.pr ((fun w_ hB_ hS_ => fU l lv og zl w_ (hlv.below hB_)) _ h.bel h.sep)
 have p2 := s1.2
 have p2_0 := p2.1
 have p2_1 := p2.2
 refine lX (xs := (bD l)) h (cB Tryz.call261 rfl) (fun w_ hB_ hS_ => fU l lv og zl w_ (hlv.below hB_)) rfl ?_; clear h; intro sv3 _ _ _ h
 refine gz h <| (W) ?_; clear h; intro _ _ h
 refine on1 h 0 rfl (jn (vs := [sv3, (.func (.func 263) #[] #[])]) (A := fun v => [.row (α := U Int) 176 sv3 (bL (bD l))]) (cB Tryz.call262 rfl) (fun w_ B_ hB_ hS_ => ia (bD l) sv3 og s1.1 w0 w_ B_ hB_ hS_ )) rfl ?_; clear h; intro vc _ _ s5 h
 obtain rfl : vc = _ := s5.1
 have p6 := s5.2.2
 exact (rx h) fun _ _ h => (by unfold ah; exact h.retR 0 rfl ⟨s5.2.1, og⟩)
attribute [irreducible] ah
end Go.Sx
namespace Go.Sx
open Go Go.RowKit Go.Proofs
attribute [local irreducible] Code.wp wpList Rd iq ObS Ent
attribute [local irreducible] ar bS ao aR aG cX
theorem si (w : World) : (method (Tryz.prog.types.size + Made.depth) 59 (.agg #[]) "Equal").run zP w = .ok (372, .agg #[]) w := k8 (P := zP) (T := 59) Tryz.type59 (by kernel_rfl) uu59 w
instance : Mt zP 59 (.agg #[]) "Equal" 372 := ⟨si⟩
theorem rb (w : World) : (nilAhead (Tryz.prog.types.size + Made.depth) 59 (.agg #[]) "Equal").run zP w = .ok (some false) w := ju (P := zP) (T := 59) (f := 372) Tryz.type59 (by kernel_rfl) uu59 w
instance : Nl zP 59 (.agg #[]) "Equal" := ⟨rb⟩
theorem rj (w : World) : (method (Tryz.prog.types.size + Made.depth) 59 (.agg #[]) "Reduce").run zP w = .ok (373, .agg #[]) w := k8 (P := zP) (T := 59) Tryz.type59 (by kernel_rfl) uu59 w
instance : Mt zP 59 (.agg #[]) "Reduce" 373 := ⟨rj⟩
theorem qp (w : World) : (nilAhead (Tryz.prog.types.size + Made.depth) 59 (.agg #[]) "Reduce").run zP w = .ok (some false) w := ju (P := zP) (T := 59) (f := 373) Tryz.type59 (by kernel_rfl) uu59 w
instance : Nl zP 59 (.agg #[]) "Reduce" := ⟨qp⟩
theorem th (w : World) : (method (Tryz.prog.types.size + Made.depth) 59 (.agg #[]) "Same").run zP w = .ok (374, .agg #[]) w := k8 (P := zP) (T := 59) Tryz.type59 (by kernel_rfl) uu59 w
instance : Mt zP 59 (.agg #[]) "Same" 374 := ⟨th⟩
theorem se (w : World) : (nilAhead (Tryz.prog.types.size + Made.depth) 59 (.agg #[]) "Same").run zP w = .ok (some false) w := ju (P := zP) (T := 59) (f := 374) Tryz.type59 (by kernel_rfl) uu59 w
instance : Nl zP 59 (.agg #[]) "Same" := ⟨se⟩
def m7 (l : List (U Int)) (x18 : Nat) (out : List (U Int)) (x43 : Nat) : (List (U Int)) × Int :=
 (out, 0)
def dW (l : List (U Int)) (x18 : Nat) (out : List (U Int)) (x43 : Nat) : Nx ((List (U Int)) × Nat) ((List (U Int)) × Int) :=
 bif (decide ((x43 : Int) < (((aj (ah l)).length : Nat) : Int))) then
  bif (((decide ((out.length : Int) > 0)) && (decide (((gt out (out.length - 1)).iv).hi = ((gt (aj (ah l)) x43).iv).lo))) && (!(aL ((gt out (out.length - 1)).iv)))) then
   bif (!(aL ((gt (aj (ah l)) x43).iv))) then
    bif ((!((gt out (out.length - 1)).iv).openHi) && (ch ((gt out (out.length - 1)).f) ((gt (aj (ah l)) x43).f))) then
     .go ((out.set (out.length - 1) (⟨(⟨((gt out (out.length - 1)).iv).lo, ((gt (aj (ah l)) x43).iv).hi, ((gt out (out.length - 1)).iv).openLo, true⟩ : Iv), (gt out (out.length - 1)).f⟩ : U Int)), (x43 + 1))
    else
     bif ((((decide ((x43 : Int) > 0)) && (aL ((gt (aj (ah l)) (x43 - 1)).iv))) && (decide (((gt (aj (ah l)) (x43 - 1)).iv).lo = ((gt (aj (ah l)) x43).iv).lo))) && (!(g9 out (((gt (aj (ah l)) x43).iv).lo)))) then
      .go ((out ++ [(⟨(⟨((gt (aj (ah l)) x43).iv).lo, ((gt (aj (ah l)) x43).iv).hi, false, ((gt (aj (ah l)) x43).iv).openHi⟩ : Iv), (gt (aj (ah l)) x43).f⟩ : U Int)]), (x43 + 1))
     else
      .go ((out ++ [(gt (aj (ah l)) x43)]), (x43 + 1))
   else
    bif (bV ((gt out (out.length - 1)).f) ((gt (aj (ah l)) x43).f) (((gt (aj (ah l)) x43).iv).lo)) then
     .go ((out.set (out.length - 1) (⟨(⟨((gt out (out.length - 1)).iv).lo, ((gt out (out.length - 1)).iv).hi, ((gt out (out.length - 1)).iv).openLo, false⟩ : Iv), (gt out (out.length - 1)).f⟩ : U Int)), (x43 + 1))
    else
     bif (((decide (((x43 + 1 : Nat) : Int) < (((aj (ah l)).length : Nat) : Int))) && (decide (((gt (aj (ah l)) (x43 + 1)).iv).lo = ((gt (aj (ah l)) x43).iv).lo))) && (bV ((gt (aj (ah l)) (x43 + 1)).f) ((gt (aj (ah l)) x43).f) (((gt (aj (ah l)) x43).iv).lo))) then
      .go (out, (x43 + 1))
     else
      .go ((out ++ [(⟨(gt (aj (ah l)) x43).iv, (bp ((gt (aj (ah l)) x43).f) (((gt (aj (ah l)) x43).iv).lo))⟩ : U Int)]), (x43 + 1))
  else
   bif (!(aL ((gt (aj (ah l)) x43).iv))) then
    bif ((((decide ((x43 : Int) > 0)) && (aL ((gt (aj (ah l)) (x43 - 1)).iv))) && (decide (((gt (aj (ah l)) (x43 - 1)).iv).lo = ((gt (aj (ah l)) x43).iv).lo))) && (!(g9 out (((gt (aj (ah l)) x43).iv).lo)))) then
     .go ((out ++ [(⟨(⟨((gt (aj (ah l)) x43).iv).lo, ((gt (aj (ah l)) x43).iv).hi, false, ((gt (aj (ah l)) x43).iv).openHi⟩ : Iv), (gt (aj (ah l)) x43).f⟩ : U Int)]), (x43 + 1))
    else
     .go ((out ++ [(gt (aj (ah l)) x43)]), (x43 + 1))
   else
    bif (((decide (((x43 + 1 : Nat) : Int) < (((aj (ah l)).length : Nat) : Int))) && (decide (((gt (aj (ah l)) (x43 + 1)).iv).lo = ((gt (aj (ah l)) x43).iv).lo))) && (bV ((gt (aj (ah l)) (x43 + 1)).f) ((gt (aj (ah l)) x43).f) (((gt (aj (ah l)) x43).iv).lo))) then
     .go (out, (x43 + 1))
    else
     .go ((out ++ [(⟨(gt (aj (ah l)) x43).iv, (bp ((gt (aj (ah l)) x43).f) (((gt (aj (ah l)) x43).iv).lo))⟩ : U Int)]), (x43 + 1))
 else
  .out (out, x43)
def gJ (l : List (U Int)) (x18 : Nat) : (List (U Int)) × Int :=
 fin (bo (fun s => dW l x18 s.1 s.2) (((aj (ah l)).length - 0) + 1) ([], 0)) (fun s => m7 l x18 s.1 s.2) (fun r => r)
def fO (l : List (U Int)) (x18 : Nat) : Nx Nat ((List (U Int)) × Int) :=
 bif (decide ((x18 : Int) < ((ah l).length : Int))) then
  bif ((decide ((x18 : Int) > 0)) && (!(dp ((gt (ah l) (x18 - 1)).iv) ((gt (ah l) x18).iv)))) then
   .ret ([], 11)
  else
   .go (x18 + 1)
 else
  .out x18
def bX (l : List (U Int)) : (List (U Int)) × Int :=
 fin (bo (fun s => fO l s) ((l.length - 0) + 1) 0) (fun s => gJ l s) (fun r => r)
theorem gI (l : List (U Int)) (lv : Value) (hl : l.length < 20) (zl : All (mh 30) l) (w0 : World) (hlv : View w0 lv l) : Calls zP 119 #[(.iface 59 (.agg #[])), lv] w0 (RetT w0 176 (bX l).1 [.int .i64 ((bX l).2)] (All (mh 30) ((bX l).1) ∧ (bX l).1.length ≤ 3 * l.length)) := by
 refine enter (N := 219) Tryz.func119 rfl rfl ?_; intro ac h
 have hlenl := hlv.len
 refine gz h <| (W) ?_; clear h ac; intro ac wo h
 have s1 := RetR.pr ((fun w_ hB_ hS_ => ke l lv og zl w_ (hlv.below hB_)) _ h.bel h.sep)
 have p2 := s1.2
 refine lX (xs := (ah l)) h (cB Tryz.call202 rfl) (fun w_ hB_ hS_ => ke l lv og zl w_ (hlv.below hB_)) rfl ?_; clear h ac wo; intro sv3 ac wo _ h
 obtain ⟨X1, hX1⟩ : ∃ X, bo (fun s => fO l s) ((l.length - 0) + 1) 0 = X := ⟨_, rfl⟩
 refine gz h <| (W) ?_; clear h ac wo; intro ac wo h
 refine wp_loop_ghost (fun n_ a_ w_ => ∃ (x18 : Nat), ((l.length - x18) < n_) ∧ (bo (fun s => fO l s) n_ x18 = X1) ∧ (x18 ≤ l.length) ∧ St w0 219 [(0, (.iface 59 (.agg #[]))), (1, sv3), (17, (iN ((ah l).length))), (18, (iN x18))] [.row (α := U Int) 176 sv3 (ah l)] a_ w_) ((l.length - 0) + 1) ⟨0, og, hX1, og, h.rs⟩ ?_
 clear h ac wo; rintro n1 ac wo ⟨x18, hm1, hL1, hx18, h⟩
 obtain ⟨m1, rfl⟩ : ∃ m, n1 = m + 1 := ⟨n1 - 1, by omega⟩
 refine gz h <| (ai) ?_ ?_ <;> clear h ac wo <;> intro ac wo h hc1
 ·
  have hd1 := of_decide_eq_true hc1
  refine gz h <| (dr0 (hob := (oG (by exact fun hg => jr ((gt (ah l) (x18 - 1)).iv) ((gt (ah l) x18).iv) 10 og (All.gt s1.1 (dN _)) (All.gt s1.1 (dN _)))) <| oE)) <| (ai) ?_ ?_ <;> clear h ac wo <;> intro ac wo h hc2
  ·
   have q := hc2; try simp at q
   refine gz h <| (W) ?_; clear h ac wo; intro ac wo h
   replace h := h.nilRow (α := U Int) 176
   have hr1 := fR hL1 pt
   have hd : bX l = ([], 11) := pt
   exact (rt h) (by rw [hd]; exact h.retT 0 rfl rfl ⟨All.nil, og⟩)
  ·
   have q := hc2; try simp at q
   have hg := bq hL1 pt
   exact (nx h) fun _ _ h => by exact ⟨m1, og, _, og, hg, og, h.re [0]⟩
 ·
  have hd1 := of_decide_eq_false hc1
  have hx1 := ck hL1 pt
  refine gz h <| (W) ?_; clear h ac wo; intro ac wo h
  have s5 := RetR.pr ((fun w_ hB_ hS_ => kE (ah l) sv3 og s1.1 w_ (row_view hS_ 0 rfl)) _ h.bel h.sep)
  have p6 := s5.2
  refine lX (xs := (aj (ah l))) h (cB Tryz.call203 rfl) (fun w_ hB_ hS_ => kE (ah l) sv3 og s1.1 w_ (row_view hS_ 0 rfl)) rfl ?_; clear h ac wo; intro sv7 ac wo _ h
  refine gz h <| (W) ?_; clear h ac wo; intro ac wo h
  replace h := h.nilRow (α := U Int) 176
  obtain ⟨X2, hX2⟩ : ∃ X, bo (fun s => dW l x18 s.1 s.2) (((aj (ah l)).length - 0) + 1) ([], 0) = X := ⟨_, rfl⟩
  refine wp_loop_ghost (fun n_ a_ w_ => ∃ (out : List (U Int)) (x43 : Nat) (outv : Value), (((aj (ah l)).length - x43) < n_) ∧ (bo (fun s => dW l x18 s.1 s.2) n_ (out, x43) = X2) ∧ (x43 ≤ (aj (ah l)).length) ∧ (All (mh 30) out) ∧ (out.length ≤ x43) ∧ St w0 219 [(0, (.iface 59 (.agg #[]))), (7, outv), (8, sv7), (41, sv7), (42, (iN ((aj (ah l)).length))), (43, (iN x43))] [.row (α := U Int) 176 outv out, .row (α := U Int) 176 sv7 (aj (ah l)), .row (α := U Int) 176 sv3 (ah l)] a_ w_) (((aj (ah l)).length - 0) + 1) ⟨[], 0, (.slice none 0 0), og, hX2, og, All.nil, og, h.rs⟩ ?_
  clear h ac wo; rintro n2 ac wo ⟨out, x43, outv, hm2, hL2, hx43, zout, hol, h⟩
  obtain ⟨m2, rfl⟩ : ∃ m, n2 = m + 1 := ⟨n2 - 1, by omega⟩
  refine gz h <| (ai) ?_ ?_ <;> clear h ac wo <;> intro ac wo h hc3
  ·
   have hd3 := of_decide_eq_true hc3
   refine gz h <| (xa) fun b1 => (xa) fun b2 => (dr0 (hob := (oG (by exact fun hg => cM ((gt out (out.length - 1)).iv))) <| oE)) <| (ai) ?_ ?_ <;> clear h ac wo <;> intro ac wo h hc4
   ·
    have q := hc4; try simp at q
    refine gz h <| (xk (cM ((gt (aj (ah l)) x43).iv))) <| (ai) ?_ ?_ <;> clear h ac wo <;> intro ac wo h hc5
    ·
     have q := hc5; try simp at q
     refine gz h <| (dr0 (hob := (oG (by exact fun hg => jG ((gt out (out.length - 1)).f) ((gt (aj (ah l)) x43).f))) <| oE)) <| (ai) ?_ ?_ <;> clear h ac wo <;> intro ac wo h hc6
     ·
      have q := hc6; try simp at q
      refine gz h <| (W) ?_; clear h ac wo; intro ac wo h
      refine up h 2 rfl (gX (k := 9) (u' := (⟨(⟨((gt out (out.length - 1)).iv).lo, ((gt (aj (ah l)) x43).iv).hi, ((gt out (out.length - 1)).iv).openLo, ((gt out (out.length - 1)).iv).openHi⟩ : Iv), (gt out (out.length - 1)).f⟩ : U Int)) zz71 (dM og) rfl rfl rfl rfl rfl rfl rfl rfl) ?_; clear h ac wo; intro ac wo h
      refine gz h <| (W) ?_; clear h ac wo; intro ac wo h
      refine up h 2 rfl (gX (k := 19) (u' := (⟨(⟨((gt out (out.length - 1)).iv).lo, ((gt (aj (ah l)) x43).iv).hi, ((gt out (out.length - 1)).iv).openLo, true⟩ : Iv), (gt out (out.length - 1)).f⟩ : U Int)) zz4 (lK og) rfl rfl rfl rfl rfl rfl rfl rfl) ?_; clear h ac wo; intro ac wo h
      replace h := h.rowEq 2 rfl (by rw [List.set_set] : _ = (out.set (out.length - 1) (⟨(⟨((gt out (out.length - 1)).iv).lo, ((gt (aj (ah l)) x43).iv).hi, ((gt out (out.length - 1)).iv).openLo, true⟩ : Iv), (gt out (out.length - 1)).f⟩ : U Int)))
      have hg := bq hL2 pt
      exact (nx h) fun _ _ h => by exact ⟨m2, og, _, _, _, og, hg, og, (All.set zout ⟨(All.gt zout (dN _)).1, (All.gt s5.1 (dN _)).2⟩), og, h.re [2, 3, 4]⟩
     ·
      have q := hc6; try simp at q
      refine gz h <| (dr0 (hob := (oG (by exact fun hg => cM ((gt (aj (ah l)) (x43 - 1)).iv))) <| (oX (h := by exact fun _ => og1 (acc := [2]) rfl rfl rfl rfl (fun hg => eV (cB Tryz.call204 (ks (cm rfl hg) (ks (cm rfl hg) rfl))) (fun w_ hB_ hS_ => k6 out outv (((gt (aj (ah l)) x43).iv).lo) zout (All.gt s5.1 (dN _)).1 w_ (row_view hS_ 0 rfl))))) <| oE)) <| (ai) ?_ ?_ <;> clear h ac wo <;> intro ac wo h hc7
      ·
       have q := hc7; try simp at q
       refine gz h <| (xs 1 (cUI (⟨(⟨((gt (aj (ah l)) x43).iv).lo, ((gt (aj (ah l)) x43).iv).hi, false, ((gt (aj (ah l)) x43).iv).openHi⟩ : Iv), (gt (aj (ah l)) x43).f⟩ : U Int))) <| (W) ?_; clear h ac wo; intro ac wo h
       refine nw h (cj (α := U Int) (xs := [.tmp 160]) (vs := [(vUI (⟨(⟨((gt (aj (ah l)) x43).iv).lo, ((gt (aj (ah l)) x43).iv).hi, false, ((gt (aj (ah l)) x43).iv).openHi⟩ : Iv), (gt (aj (ah l)) x43).f⟩ : U Int))]) [(⟨(⟨((gt (aj (ah l)) x43).iv).lo, ((gt (aj (ah l)) x43).iv).hi, false, ((gt (aj (ah l)) x43).iv).openHi⟩ : Iv), (gt (aj (ah l)) x43).f⟩ : U Int)] jZ rfl rfl rfl DC) rfl ?_; clear h ac wo; intro sv9 ac wo nnsv9 h
       refine on2 h 3 0 rfl rfl (er (xs := out) (ys := [(⟨(⟨((gt (aj (ah l)) x43).iv).lo, ((gt (aj (ah l)) x43).iv).hi, false, ((gt (aj (ah l)) x43).iv).openHi⟩ : Iv), (gt (aj (ah l)) x43).f⟩ : U Int)]) jZ (fun w hs => (row_view hs 0 rfl)) rfl rfl og) rfl ?_; clear h ac wo; intro sv10 ac wo apsv10 h
       have hg := bq hL2 pt
       exact (nx h) fun _ _ h => by exact ⟨m2, og, _, _, _, og, hg, og, (All.app zout (All.cons ⟨(All.gt s5.1 (dN _)).1, (All.gt s5.1 (dN _)).2⟩ All.nil)), og, h.re [0, 4, 5]⟩
      ·
       have q := hc7; try simp at q
       refine gz h <| (W) ?_; clear h ac wo; intro ac wo h
       refine nw h (cj (α := U Int) (xs := [.tmp 160]) (vs := [(vUI (gt (aj (ah l)) x43))]) [(gt (aj (ah l)) x43)] jZ rfl rfl rfl DC) rfl ?_; clear h ac wo; intro sv11 ac wo nnsv11 h
       refine on2 h 3 0 rfl rfl (er (xs := out) (ys := [(gt (aj (ah l)) x43)]) jZ (fun w hs => (row_view hs 0 rfl)) rfl rfl og) rfl ?_; clear h ac wo; intro sv12 ac wo apsv12 h
       have hg := bq hL2 pt
       exact (nx h) fun _ _ h => by exact ⟨m2, og, _, _, _, og, hg, og, (All.app zout (All.cons (All.gt s5.1 (dN _)) All.nil)), og, h.re [0, 4, 5]⟩
    ·
     have q := hc5; try simp at q
     refine gz h <| (dr0 (hob := (oG (by exact fun hg => iG ((gt out (out.length - 1)).f) ((gt (aj (ah l)) x43).f) (((gt (aj (ah l)) x43).iv).lo) (All.gt s5.1 (dN _)).1)) <| oE)) <| (ai) ?_ ?_ <;> clear h ac wo <;> intro ac wo h hc8
     ·
      have q := hc8; try simp at q
      refine gz h <| (W) ?_; clear h ac wo; intro ac wo h
      refine up h 2 rfl (gX (k := 19) (u' := (⟨(⟨((gt out (out.length - 1)).iv).lo, ((gt out (out.length - 1)).iv).hi, ((gt out (out.length - 1)).iv).openLo, false⟩ : Iv), (gt out (out.length - 1)).f⟩ : U Int)) zz4 (dM og) rfl rfl rfl rfl rfl rfl rfl rfl) ?_; clear h ac wo; intro ac wo h
      have hg := bq hL2 pt
      exact (nx h) fun _ _ h => by exact ⟨m2, og, _, _, _, og, hg, og, (All.set zout ⟨(All.gt zout (dN _)).1, (All.gt zout (dN _)).2⟩), og, h.re [2, 3, 4]⟩
     ·
      have q := hc8; try simp at q
      refine gz h <| (dr0 (hob := (oG (by exact fun hg => iG ((gt (aj (ah l)) (x43 + 1)).f) ((gt (aj (ah l)) x43).f) (((gt (aj (ah l)) x43).iv).lo) (All.gt s5.1 (dN _)).1)) <| oE)) <| (ai) ?_ ?_ <;> clear h ac wo <;> intro ac wo h hc9
      ·
       have q := hc9; try simp at q
       have hg := bq hL2 pt
       exact (nx h) fun _ _ h => by exact ⟨m2, og, _, _, _, og, hg, og, zout, og, h.re [2, 3, 4]⟩
      ·
       have q := hc9; try simp at q
       refine gz h <| (xk (js ((gt (aj (ah l)) x43).f) (((gt (aj (ah l)) x43).iv).lo) (All.gt s5.1 (dN _)).1)) <| (xs 1 (cUI (⟨(gt (aj (ah l)) x43).iv, (bp ((gt (aj (ah l)) x43).f) (((gt (aj (ah l)) x43).iv).lo))⟩ : U Int))) <| (W) ?_; clear h ac wo; intro ac wo h
       refine nw h (cj (α := U Int) (xs := [.tmp 87]) (vs := [(vUI (⟨(gt (aj (ah l)) x43).iv, (bp ((gt (aj (ah l)) x43).f) (((gt (aj (ah l)) x43).iv).lo))⟩ : U Int))]) [(⟨(gt (aj (ah l)) x43).iv, (bp ((gt (aj (ah l)) x43).f) (((gt (aj (ah l)) x43).iv).lo))⟩ : U Int)] jZ rfl rfl rfl DC) rfl ?_; clear h ac wo; intro sv13 ac wo nnsv13 h
       refine on2 h 3 0 rfl rfl (er (xs := out) (ys := [(⟨(gt (aj (ah l)) x43).iv, (bp ((gt (aj (ah l)) x43).f) (((gt (aj (ah l)) x43).iv).lo))⟩ : U Int)]) jZ (fun w hs => (row_view hs 0 rfl)) rfl rfl og) rfl ?_; clear h ac wo; intro sv14 ac wo apsv14 h
       have hg := bq hL2 pt
       exact (nx h) fun _ _ h => by exact ⟨m2, og, _, _, _, og, hg, og, (All.app zout (All.cons (All.gt s5.1 (dN _)) All.nil)), og, h.re [0, 4, 5]⟩
   ·
    have q := hc4; try simp at q
    refine gz h <| (xk (cM ((gt (aj (ah l)) x43).iv))) <| (ai) ?_ ?_ <;> clear h ac wo <;> intro ac wo h hc10
    ·
     have q := hc10; try simp at q
     refine gz h <| (W) ?_; clear h ac wo; intro ac wo h
     refine gm mixed [dv _, dv _, dv _, ⟨.det (gv false undef), []⟩, ⟨.det (gv false undef), []⟩, ⟨.det (gv false undef), []⟩, ⟨.det (gv false undef), []⟩, ⟨.det (gv false undef), []⟩, ⟨.det (gv false undef), []⟩, dv _, dv _, ⟨.det (gv false undef), []⟩, ⟨.det (gv false undef), []⟩, ⟨.det (gv false undef), []⟩, ⟨.det (gv false undef), []⟩, ⟨.det (gv false undef), []⟩, ⟨.det (gv false undef), []⟩, ⟨.det (gv false undef), []⟩, ⟨.det (gv false undef), []⟩, ⟨.det (gv false undef), []⟩, ⟨.det (gv false undef), []⟩, ⟨.det (gv false undef), []⟩, dv _] [⟨_, []⟩, ⟨_, []⟩, ⟨_, []⟩, ⟨_, []⟩, ⟨_, []⟩] h rfl (by kernel_rfl) ⟨fun _ _ => om rfl, fun _ _ => a6 (oo nn266 rfl (p := none)), fun _ _ => om rfl, (fun ξ hφ => by exact iO (c := true) (b := false) (g := false) [] rfl rfl rfl rfl g_t (fun hg => absurd hg DC)), (fun ξ hφ => by exact iO (c := true) (b := false) (g := false) [] rfl rfl rfl rfl g_t (fun hg => absurd hg DC)), (fun ξ hφ => by exact iO (c := true) (b := false) (g := false) [] rfl rfl rfl rfl g_t (fun hg => absurd hg DC)), (fun ξ hφ => by exact iO (c := true) (b := false) (g := false) [] rfl rfl rfl rfl g_t (fun hg => absurd hg DC)), (fun ξ hφ => by exact iO (c := true) (b := false) (g := false) [] rfl rfl rfl rfl g_t (fun hg => absurd hg DC)), (fun ξ hφ => by exact iO (c := true) (b := false) (g := false) [] rfl rfl rfl rfl g_t (fun hg => absurd hg DC)), fun _ _ => a6 (oR (b := false) rfl (fun e => absurd e DC) (fun _ => rfl) (v := .bool false)), fun _ _ => om rfl, (fun ξ hφ => by exact iO (c := true) (b := false) (g := false) [] rfl rfl rfl rfl g_t (fun hg => absurd hg DC)), (fun ξ hφ => by exact iO (c := true) (b := false) (g := false) [] rfl rfl rfl rfl g_t (fun hg => absurd hg DC)), (fun ξ hφ => by exact iO (c := true) (b := false) (g := false) [] rfl rfl rfl rfl g_t (fun hg => absurd hg DC)), (fun ξ hφ => by exact iO (c := true) (b := false) (g := false) [] rfl rfl rfl rfl g_t (fun hg => absurd hg DC)), (fun ξ hφ => by exact iO (c := true) (b := false) (g := false) [] rfl rfl rfl rfl g_t (fun hg => absurd hg DC)), (fun ξ hφ => by exact iO (c := true) (b := false) (g := false) [] rfl rfl rfl rfl g_t (fun hg => absurd hg DC)), (fun ξ hφ => by exact iO (c := true) (b := false) (g := false) [] rfl rfl rfl rfl g_t (fun hg => absurd hg DC)), (fun ξ hφ => by exact iO (c := true) (b := false) (g := false) [] rfl rfl rfl rfl g_t (fun hg => absurd hg DC)), (fun ξ hφ => by exact iO (c := true) (b := false) (g := false) [] rfl rfl rfl rfl g_t (fun hg => absurd hg DC)), (fun ξ hφ => by exact iO (c := true) (b := false) (g := false) [] rfl rfl rfl rfl g_t (fun hg => absurd hg DC)), (fun ξ hφ => by exact iO (c := true) (b := false) (g := false) [] rfl rfl rfl rfl g_t (fun hg => absurd hg DC)), fun _ _ => a6 (oR (b := false) rfl (fun e => absurd e DC) (fun _ => rfl) (v := .bool false)), trivial⟩ ?_
     clear h ac wo; intro ξ ac wo hφ h
     replace h : St w0 219 [(0, (.iface 59 (.agg #[]))), (7, outv), (8, sv7), (41, sv7), (42, (iN ((aj (ah l)).length))), (43, (iN x43)), (10, (ptr b1 0)), (9, (iN x43)), (11, (ptr b2 0)), (12, (.pointer none)), (117, (.bool false))] [.blk b2 (cR (((gt (aj (ah l)) x43).iv).lo)) 71, .blk b1 (cUI (gt (aj (ah l)) x43)) 176, .row (α := U Int) 176 outv out, .row (α := U Int) 176 sv7 (aj (ah l)), .row (α := U Int) 176 sv3 (ah l)] ac wo := (h.pick [0, 1, 2, 3, 4] DC).sub ⟨rfl, rfl, rfl, rfl, rfl, rfl, rfl, rfl, rfl, rfl, rfl, trivial⟩
     clear hφ ξ
     refine gz h <| (W) ?_; clear h ac wo; intro ac wo h
     refine p7 h rfl ?_
     refine gz h <| (dr0 (hob := (oG (by exact fun hg => cM ((gt (aj (ah l)) (x43 - 1)).iv))) <| (oX (h := by exact fun _ => og1 (acc := [2]) rfl rfl rfl rfl (fun hg => eV (cB Tryz.call204 (ks (cm rfl hg) (ks (cm rfl hg) rfl))) (fun w_ hB_ hS_ => k6 out outv (((gt (aj (ah l)) x43).iv).lo) zout (All.gt s5.1 (dN _)).1 w_ (row_view hS_ 0 rfl))))) <| oE)) <| (ai) ?_ ?_ <;> clear h ac wo <;> intro ac wo h hc11
     ·
      have q := hc11; try simp at q
      refine gz h <| (xs 1 (cUI (⟨(⟨((gt (aj (ah l)) x43).iv).lo, ((gt (aj (ah l)) x43).iv).hi, false, ((gt (aj (ah l)) x43).iv).openHi⟩ : Iv), (gt (aj (ah l)) x43).f⟩ : U Int))) <| (W) ?_; clear h ac wo; intro ac wo h
      refine nw h (cj (α := U Int) (xs := [.tmp 160]) (vs := [(vUI (⟨(⟨((gt (aj (ah l)) x43).iv).lo, ((gt (aj (ah l)) x43).iv).hi, false, ((gt (aj (ah l)) x43).iv).openHi⟩ : Iv), (gt (aj (ah l)) x43).f⟩ : U Int))]) [(⟨(⟨((gt (aj (ah l)) x43).iv).lo, ((gt (aj (ah l)) x43).iv).hi, false, ((gt (aj (ah l)) x43).iv).openHi⟩ : Iv), (gt (aj (ah l)) x43).f⟩ : U Int)] jZ rfl rfl rfl DC) rfl ?_; clear h ac wo; intro sv15 ac wo nnsv15 h
      refine on2 h 3 0 rfl rfl (er (xs := out) (ys := [(⟨(⟨((gt (aj (ah l)) x43).iv).lo, ((gt (aj (ah l)) x43).iv).hi, false, ((gt (aj (ah l)) x43).iv).openHi⟩ : Iv), (gt (aj (ah l)) x43).f⟩ : U Int)]) jZ (fun w hs => (row_view hs 0 rfl)) rfl rfl og) rfl ?_; clear h ac wo; intro sv16 ac wo apsv16 h
      have hg := bq hL2 pt
      exact (nx h) fun _ _ h => by exact ⟨m2, og, _, _, _, og, hg, og, (All.app zout (All.cons ⟨(All.gt s5.1 (dN _)).1, (All.gt s5.1 (dN _)).2⟩ All.nil)), og, h.re [0, 4, 5]⟩
     ·
      have q := hc11; try simp at q
      refine gz h <| (W) ?_; clear h ac wo; intro ac wo h
      refine nw h (cj (α := U Int) (xs := [.tmp 160]) (vs := [(vUI (gt (aj (ah l)) x43))]) [(gt (aj (ah l)) x43)] jZ rfl rfl rfl DC) rfl ?_; clear h ac wo; intro sv17 ac wo nnsv17 h
      refine on2 h 3 0 rfl rfl (er (xs := out) (ys := [(gt (aj (ah l)) x43)]) jZ (fun w hs => (row_view hs 0 rfl)) rfl rfl og) rfl ?_; clear h ac wo; intro sv18 ac wo apsv18 h
      have hg := bq hL2 pt
      exact (nx h) fun _ _ h => by exact ⟨m2, og, _, _, _, og, hg, og, (All.app zout (All.cons (All.gt s5.1 (dN _)) All.nil)), og, h.re [0, 4, 5]⟩
    ·
     have q := hc10; try simp at q
     refine gz h <| (W) ?_; clear h ac wo; intro ac wo h
     refine gm mixed [dv _, dv _, dv _, ⟨.det (gv false undef), []⟩, ⟨.det (gv false undef), []⟩, ⟨.det (gv false undef), []⟩, ⟨.det (gv false undef), []⟩, ⟨.det (gv false undef), []⟩, ⟨.det (gv false undef), []⟩, ⟨.det (gv false undef), []⟩, ⟨.det (gv false undef), []⟩, ⟨.det (gv false undef), []⟩, ⟨.det (gv false undef), []⟩, ⟨.det (gv false undef), []⟩, ⟨.det (gv false undef), []⟩, dv _, dv _] [⟨_, []⟩, ⟨_, []⟩, ⟨_, []⟩, ⟨_, []⟩, ⟨_, []⟩] h rfl (by kernel_rfl) ⟨fun _ _ => om rfl, fun _ _ => a6 (oo nn266 rfl (p := none)), fun _ _ => om rfl, (fun ξ hφ => by exact iO (c := true) (b := false) (g := false) [] rfl rfl rfl rfl g_t (fun hg => absurd hg DC)), (fun ξ hφ => by exact iO (c := true) (b := false) (g := false) [] rfl rfl rfl rfl g_t (fun hg => absurd hg DC)), (fun ξ hφ => by exact iO (c := true) (b := false) (g := false) [] rfl rfl rfl rfl g_t (fun hg => absurd hg DC)), (fun ξ hφ => by exact iO (c := true) (b := false) (g := false) [] rfl rfl rfl rfl g_t (fun hg => absurd hg DC)), (fun ξ hφ => by exact iO (c := true) (b := false) (g := false) [] rfl rfl rfl rfl g_t (fun hg => absurd hg DC)), (fun ξ hφ => by exact iO (c := true) (b := false) (g := false) [] rfl rfl rfl rfl g_t (fun hg => absurd hg DC)), (fun ξ hφ => by exact iO (c := true) (b := false) (g := false) [] rfl rfl rfl rfl g_t (fun hg => absurd hg DC)), (fun ξ hφ => by exact iO (c := true) (b := false) (g := false) [] rfl rfl rfl rfl g_t (fun hg => absurd hg DC)), (fun ξ hφ => by exact iO (c := true) (b := false) (g := false) [] rfl rfl rfl rfl g_t (fun hg => absurd hg DC)), (fun ξ hφ => by exact iO (c := true) (b := false) (g := false) [] rfl rfl rfl rfl g_t (fun hg => absurd hg DC)), (fun ξ hφ => by exact iO (c := true) (b := false) (g := false) [] rfl rfl rfl rfl g_t (fun hg => absurd hg DC)), (fun ξ hφ => by exact iO (c := true) (b := false) (g := false) [] rfl rfl rfl rfl g_t (fun hg => absurd hg DC)), fun _ _ => a6 (oR (b := false) rfl (fun e => absurd e DC) (fun _ => rfl) (v := .bool false)), fun _ _ => a6 (az rfl), trivial⟩ ?_
     clear h ac wo; intro ξ ac wo hφ h
     replace h : St w0 219 [(0, (.iface 59 (.agg #[]))), (7, outv), (8, sv7), (41, sv7), (42, (iN ((aj (ah l)).length))), (43, (iN x43)), (10, (ptr b1 0)), (9, (iN x43)), (11, (ptr b2 0)), (12, (.pointer none)), (163, (.bool false))] [.blk b2 (cR (((gt (aj (ah l)) x43).iv).lo)) 71, .blk b1 (cUI (gt (aj (ah l)) x43)) 176, .row (α := U Int) 176 outv out, .row (α := U Int) 176 sv7 (aj (ah l)), .row (α := U Int) 176 sv3 (ah l)] ac wo := (h.pick [0, 1, 2, 3, 4] DC).sub ⟨rfl, rfl, rfl, rfl, rfl, rfl, rfl, rfl, rfl, rfl, rfl, trivial⟩
     clear hφ ξ
     refine gz h <| (W) ?_; clear h ac wo; intro ac wo h
     refine p7 h rfl ?_
     refine gz h <| (dr0 (hob := (oG (by exact fun hg => iG ((gt (aj (ah l)) (x43 + 1)).f) ((gt (aj (ah l)) x43).f) (((gt (aj (ah l)) x43).iv).lo) (All.gt s5.1 (dN _)).1)) <| oE)) <| (ai) ?_ ?_ <;> clear h ac wo <;> intro ac wo h hc12
     ·
      have q := hc12; try simp at q
      have hg := bq hL2 pt
      exact (nx h) fun _ _ h => by exact ⟨m2, og, _, _, _, og, hg, og, zout, og, h.re [2, 3, 4]⟩
     ·
      have q := hc12; try simp at q
      refine gz h <| (xk (js ((gt (aj (ah l)) x43).f) (((gt (aj (ah l)) x43).iv).lo) (All.gt s5.1 (dN _)).1)) <| (xs 1 (cUI (⟨(gt (aj (ah l)) x43).iv, (bp ((gt (aj (ah l)) x43).f) (((gt (aj (ah l)) x43).iv).lo))⟩ : U Int))) <| (W) ?_; clear h ac wo; intro ac wo h
      refine nw h (cj (α := U Int) (xs := [.tmp 87]) (vs := [(vUI (⟨(gt (aj (ah l)) x43).iv, (bp ((gt (aj (ah l)) x43).f) (((gt (aj (ah l)) x43).iv).lo))⟩ : U Int))]) [(⟨(gt (aj (ah l)) x43).iv, (bp ((gt (aj (ah l)) x43).f) (((gt (aj (ah l)) x43).iv).lo))⟩ : U Int)] jZ rfl rfl rfl DC) rfl ?_; clear h ac wo; intro sv19 ac wo nnsv19 h
      refine on2 h 3 0 rfl rfl (er (xs := out) (ys := [(⟨(gt (aj (ah l)) x43).iv, (bp ((gt (aj (ah l)) x43).f) (((gt (aj (ah l)) x43).iv).lo))⟩ : U Int)]) jZ (fun w hs => (row_view hs 0 rfl)) rfl rfl og) rfl ?_; clear h ac wo; intro sv20 ac wo apsv20 h
      have hg := bq hL2 pt
      exact (nx h) fun _ _ h => by exact ⟨m2, og, _, _, _, og, hg, og, (All.app zout (All.cons (All.gt s5.1 (dN _)) All.nil)), og, h.re [0, 4, 5]⟩
  ·
   have hd3 := of_decide_eq_false hc3
   have hx2 := ck hL2 pt
   have hd : bX l = (out, 0) := pt
   exact (rx h) fun _ _ h => (by rw [hd]; exact h.retT 0 rfl rfl ⟨zout, og⟩)
attribute [irreducible] bX
end Go.Sx
