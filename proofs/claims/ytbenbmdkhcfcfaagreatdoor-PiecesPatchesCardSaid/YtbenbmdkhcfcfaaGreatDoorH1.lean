import Derived.Test.YtbenbmdkhcfcfaaGreatDoorGarith
set_option linter.unusedVariables false
set_option linter.unusedSimpArgs false
open Go.Proofs.Tryz renaming prog → zP, sizeOf4 → zz4, sizeOf71 → zz71, isAgg71 → aa71, runUnderlying167 → uu167, sizeOf166 → zz166, runUnderlying166 → uu166, runUnderlying3 → uu3, runUnderlying66 → uu66, runUnderlying59 → uu59
set_option maxRecDepth 100000
set_option maxHeartbeats 40000000
namespace Go.Sx
open Go Go.RowKit Go.Proofs
attribute [local irreducible] Code.wp wpList Rd gW ObS Ent
attribute [local irreducible] an bB ah aO az c8
theorem bld206:BuildF zP 206 (zc [2,2,2,2,1,1]) [(0,9),(9,1)]:=BuildF.of Tryz.zeroValue206 rfl Tryz.runUnderlying206 (by intro w; simp [zz4,zz71])
theorem bld264:BuildF zP 264 (zc [2,2,2,2,1,2,2,2,2,1,1,1,2,2,2,2,2,2]) [(0,9),(9,9),(18,1),(19,1),(20,12)]:=BuildF.of Tryz.zeroValue264 rfl Tryz.runUnderlying264 (by intro w; simp [zz4,Tryz.sizeOf53,zz71])
theorem tB:BuildF zP 321 (zc [2,2,2,2,1,1,3,3]) [(0,10),(10,2)]:=BuildF.of Tryz.zeroValue321 rfl Tryz.runUnderlying321 (by intro w; simp [Tryz.sizeOf206,Tryz.sizeOf319])
theorem bld55:BuildF zP 55 [] []:=BuildF.of Tryz.zeroValue55 rfl Tryz.runUnderlying55 (by intro w; simp)
theorem n7:SlT zP 66 71 9 104 (zc [2,2,2,2,1]):=⟨Tryz.underlying66,Tryz.t71,_,Tryz.type71,rfl,rfl,rfl,rfl,rfl,by decide,by decide⟩
def bh (n:Int):GR :=
 (bB n)
theorem fl (n:Int) (hn:-9223372036854775808≤n∧n≤9223372036854775807) (w0:World):Calls zP 122 #[(.int .i64 n)] w0 (RetP w0 (vR (bh n)) (SzR 40 (bh n))):=by
 refine enter (N:=5) Tryz.func122 rfl rfl ?_; intro ac h
 have c1:=pD n 40 og  og
 have s1:=au (c1 w0)
 refine gz h <| (xa) fun b1=>(xk (c1)) <| (W) ?_; clear h; intro _ _ h
 exact ret h rfl (.cell (v:=(vR (bB n))) rfl (i:=0) rfl aa71 zz71 rfl rfl rfl .nil) rfl (h.retP (by unfold bh; rfl) (by unfold bh; exact s1))
attribute [irreducible] bh
def ae (n:Int) (root:Bool):GR :=
 bif root then
  (⟨(ah n),(ah 2),false⟩:GR)
 else
  (bh n)
theorem jv (n:Int) (root:Bool) (hn:-9223372036854775808≤n∧n≤9223372036854775807) (w0:World):Calls zP 112 #[(.int .i64 n),(.bool root)] w0 (RetP w0 (vR (ae n root)) (SzR 40 (ae n root))):=by
 refine enter (N:=12) Tryz.func112 rfl rfl ?_; intro ac h
 refine gz h <| (xa) fun b1=>(ai) ?_ ?_ <;> clear h <;> intro _ _ h hc1
 ·
  have q:=hc1; try simp at q
  have c1:=bR n 40 og  og
  have s1:=au (c1 w0)
  have c2:=bR 2 40 og  og
  have s2:=au (c2 w0)
  have hd:ae n root=(⟨(ah n),(ah 2),false⟩:GR):=pt
  refine gz h <| (xk (c1)) <| (xk (c2)) <| (xo (hs:=by exact bN bld71 exs rfl (v:=(vR (⟨(ah n),(ah 2),false⟩:GR))) rfl)) <| (W) ?_; clear h; intro _ _ h
  exact ret h rfl (.cell (v:=(vR (⟨(ah n),(ah 2),false⟩:GR))) rfl (i:=0) rfl aa71 zz71 rfl rfl rfl .nil) rfl (h.retP (by rw [hd] <;> rfl) (by rw [hd]; exact ⟨s1,s2⟩))
 ·
  have q:=hc1; try simp at q
  have c3:=fl n og
  have s3:=Calls.pr (c3 w0)
  have hd:ae n root=(bh n):=pt
  refine gz h <| (xk (c3)) <| (W) ?_; clear h; intro _ _ h
  exact ret h rfl (.cell (v:=(vR (bh n))) rfl (i:=0) rfl aa71 zz71 rfl rfl rfl .nil) rfl (h.retP (by rw [hd] <;> rfl) (by rw [hd]; exact s3))
attribute [irreducible] ae
def aW (a:Int) (b:Int):Iv :=
 (⟨(bh a),(bh b),false,false⟩:Iv)
theorem f9 (a:Int) (b:Int) (ha:-9223372036854775808≤a∧a≤9223372036854775807) (hb:-9223372036854775808≤b∧b≤9223372036854775807) (w0:World):Calls zP 108 #[(.int .i64 a),(.int .i64 b)] w0 (RetP w0 (vV (aW a b)) (SzV 40 (aW a b))):=by
 refine enter (N:=10) Tryz.func108 rfl rfl ?_; intro ac h
 have c1:=fl a og
 have s1:=Calls.pr (c1 w0)
 have c2:=fl b og
 have s2:=Calls.pr (c2 w0)
 refine gz h <| (xa) fun b1=>(xk (c1)) <| (xk (c2)) <| (xo (hs:=by exact bN qf exs rfl (v:=(vV (⟨(bh a),(bh b),false,false⟩:Iv))) rfl)) <| (W) ?_; clear h; intro _ _ h
 exact ret h rfl (.cell (v:=(vV (⟨(bh a),(bh b),false,false⟩:Iv))) rfl (i:=0) rfl Tryz.isAgg86 Tryz.sizeOf86 rfl rfl rfl .nil) rfl (h.retP (by unfold aW; rfl) (by unfold aW; exact ⟨s1,s2⟩))
attribute [irreducible] aW
def aj (s:Stp):Qd :=
 (⟨(ah (Int.tmod s.c0 4)),(ah (Int.tmod s.c1 3)),(ah (Int.tmod s.c2 2))⟩:Qd)
theorem ke (s:Stp) (w0:World):Calls zP 111 #[(vS s)] w0 (RetP w0 (vD (aj s)) (SzD 40 (aj s))):=by
 refine enter (N:=22) Tryz.func111 rfl rfl ?_; intro ac h
 have t0:=tK s.c0 4 DC
 have t1:=tK s.c1 3 DC
 have t2:=tK s.c2 2 DC
 refine gz h <| (xb) fun b1=>(xa) fun b2=>(W) ?_; clear h; intro _ _ h
 have c1:=bR (Int.tmod s.c0 4) 40 og  og
 have s1:=au (c1 w0)
 have s2:=au ((bR (Int.tmod s.c1 3) 40 og  og) w0)
 have s3:=au ((bR (Int.tmod s.c2 2) 40 og  og) w0)
 refine gz h <| (dr1 (H:=[⟨.blk b2 (cD oD) 53,[(19,.con (.blk b2 (cD (⟨(ah (Int.tmod s.c0 4)),(ah (Int.tmod s.c1 3)),(ah (Int.tmod s.c2 2))⟩:Qd)) 53))]⟩,⟨.blk b1 (cS s) 169,[]⟩]) (hob:=(oX (h:=by exact fun _=>bg (vY (i:=0) uu167 zz166 rfl rfl DC))) <| (oX (h:=by exact fun _=>bg (j6 rfl rfl (r:=(Int.tmod s.c0 4)) DC rfl))) <| (oX (h:=by exact fun _=>bg (be uu166 uu3 rfl (r:=(Int.tmod s.c0 4)) (by rw [IntKind.wrap_i64]; omega)))) <| (oK (c1)) <| (oX (h:=by exact fun _=>bg (vY (i:=1) uu167 zz166 rfl rfl DC))) <| (oX (h:=by exact fun _=>bg (j6 rfl rfl (r:=(Int.tmod s.c1 3)) DC rfl))) <| (oX (h:=by exact fun _=>bg (be uu166 uu3 rfl (r:=(Int.tmod s.c1 3)) (by rw [IntKind.wrap_i64]; omega)))) <| (oK (bR (Int.tmod s.c1 3) 40 og  og)) <| (oX (h:=by exact fun _=>bg (vY (i:=2) uu167 zz166 rfl rfl DC))) <| (oX (h:=by exact fun _=>bg (j6 rfl rfl (r:=(Int.tmod s.c2 2)) DC rfl))) <| (oX (h:=by exact fun _=>bg (be uu166 uu3 rfl (r:=(Int.tmod s.c2 2)) (by rw [IntKind.wrap_i64]; omega)))) <| (oK (bR (Int.tmod s.c2 2) 40 og  og)) <| (oX (h:=by exact fun _=>bg (bN yU exs rfl (v:=(vD (⟨(ah (Int.tmod s.c0 4)),(ah (Int.tmod s.c1 3)),(ah (Int.tmod s.c2 2))⟩:Qd))) rfl))) <| oE)) <| (W) ?_; clear h; intro _ _ h
 exact ret h rfl (.cell (v:=(vD (⟨(ah (Int.tmod s.c0 4)),(ah (Int.tmod s.c1 3)),(ah (Int.tmod s.c2 2))⟩:Qd))) rfl (i:=0) rfl Tryz.isAgg53 Tryz.sizeOf53 rfl rfl rfl .nil) rfl (h.retP (by unfold aj; rfl) (by unfold aj; exact ⟨s1,s2,s3⟩))
attribute [irreducible] aj
def aT (iv:Iv) (a:GR) (b:GR) (gap:Bool):Bool :=
 bif gap then
  ((decide ((an iv.lo a)≤0)) && (decide ((an b iv.hi)≤0)))
 else
  (((decide ((an iv.lo a) < 0)) || (((an iv.lo a) == 0) && (!iv.openLo))) && ((decide ((an b iv.hi) < 0)) || (((an b iv.hi) == 0) && (!iv.openHi))))
theorem jS (iv:Iv) (a:GR) (b:GR) (gap:Bool) (ziv:SzV 30 iv) (za:SzR 30 a) (zb:SzR 30 b) (w0:World):Calls zP 124 #[(vV iv),(vR a),(vR b),(.bool gap)] w0 (RetP w0 (.bool (aT iv a b gap)) (True)):=by
 refine enter (N:=50) Tryz.func124 rfl rfl ?_; intro ac h
 have p2:=au ((aS iv.lo a 10 og ziv.1 za) w0)
 have p4:=au ((aS b iv.hi 10 og zb ziv.2) w0)
 refine gz h <| (xb) fun b1=>(xb) fun b2=>(xb) fun b3=>(dr0 (hob:=(oK (aS iv.lo a 10 og ziv.1 za)) <| (oK (aS b iv.hi 10 og zb ziv.2)) <| oE)) <| (ai) ?_ ?_ <;> clear h <;> intro _ _ h hc1
 ·
  have q:=hc1; try simp at q
  have hd:aT iv a b gap=((decide ((an iv.lo a)≤0)) && (decide ((an b iv.hi)≤0))):=pt
  exact (rx h) fun _ _ h=>(h.retP (by rw [hd] <;> rfl) trivial)
 ·
  have q:=hc1; try simp at q
  have hd:aT iv a b gap=(((decide ((an iv.lo a) < 0)) || (((an iv.lo a) == 0) && (!iv.openLo))) && ((decide ((an b iv.hi) < 0)) || (((an b iv.hi) == 0) && (!iv.openHi)))):=pt
  exact (rx h) fun _ _ h=>(h.retP (by rw [hd] <;> rfl) trivial)
attribute [irreducible] aT
def jU (l:List GR) (x:GR) (i:Nat):(List GR) :=
 (l++[x])
def cN (l:List GR) (x:GR) (i:Nat):Nx Nat (List GR) :=
 bif (decide ((i:Int) < (l.length:Int))) then
  bif ((an x (gt l i)) == 0) then
   .ret l
  else
   bif ((an x (gt l i)) == (-1)) then
    .ret ((([]++(l.take i))++[x])++(l.drop i))
   else
    .go (i+1)
 else
  .out i
def aw (l:List GR) (x:GR):(List GR) :=
 fin (bt (fun s=>cN l x s) ((l.length - 0)+1) 0) (fun s=>jU l x s) (fun r=>r)
theorem jT (l:List GR) (lv:Value) (x:GR) (hl:l.length≤1000) (zl:All (SzR 30) l) (zx:SzR 30 x) (w0 w:World) (B:Asn) (hbel:Below w0.heap.size w0 w) (hsep:∃ Z_,Sep w0.heap.size w [.row (α:=GR) 71 lv l,B] Z_):Calls zP 156 #[lv,(vR x)] w (RetY w0 (fun v=>All (SzR 30) (aw l x)∧(aw l x).length≤l.length+1) (fun v=>[.row (α:=GR) 71 v (aw l x),B])):=by
 refine lU (N:=39) Tryz.func156 rfl rfl hbel hsep ?_; intro ac h
 have hlenl:=h.len 0 rfl
 obtain ⟨X1,hX1⟩:∃ X,bt (fun s=>cN l x s) ((l.length - 0)+1) 0=X:=⟨_,rfl⟩
 refine gz h <| (xb) fun b1=>(W) ?_; clear h ac; intro ac wo h
 refine wp_loop_ghost (fun n_ a_ w_=>∃ (i:Nat),((l.length - i) < n_)∧(bt (fun s=>cN l x s) n_ i=X1)∧(i≤l.length)∧St w0 39 [(0,lv),(3,(ptr b1 0)),(5,(iN i))] [.blk b1 (cR x) 71,.row (α:=GR) 71 lv l,B] a_ w_) ((l.length - 0)+1) ⟨0,og,hX1,og,h.rs⟩ ?_
 clear h ac wo; rintro n1 ac wo ⟨i,hm1,hL1,hi,h⟩
 obtain ⟨m1,rfl⟩:∃ m,n1=m+1:=⟨n1 - 1,by omega⟩
 refine gz h <| (ai) ?_ ?_ <;> clear h ac wo <;> intro ac wo h hc1
 ·
  have hd1:=of_decide_eq_true hc1
  refine gz h <| (W) ?_; clear h ac wo; intro ac wo h
  have p2:=au ((aS x (gt l i) 10 og zx (All.gt zl (m8 _))) w0)
  refine gz h <| (dr0 (hob:=(oK (aS x (gt l i) 10 og zx (All.gt zl (m8 _)))) <| oE)) <| (ai) ?_ ?_ <;> clear h ac wo <;> intro ac wo h hc2
  ·
   have hd2:=eq_of_beq hc2
   have hr1:=iH hL1 pt
   have hd:aw l x=l:=pt
   exact (rx h) fun _ _ h=>((h.pick [1,2] DC).retY (by rw [hd]; exact ⟨zl,og⟩) (by rw [hd]; rfl))
  ·
   have hd2:=ne_of_beq_false hc2
   refine gz h <| (ai) ?_ ?_ <;> clear h ac wo <;> intro ac wo h hc3
   ·
    have hd3:=eq_of_beq hc3
    refine gz h <| (W) ?_; clear h ac wo; intro ac wo h
    replace h:=h.emps 2
    refine im mixed [⟨.nd (.one 0 fun v=>NN v 0),[3]⟩,dv _,dv _,dv _,⟨.nd (.con True),[3,1]⟩,dw _ [0],⟨.nd (.one 6 fun v=>NN v 1),[4]⟩,⟨.nd (.con True),[3,4]⟩,dv _,dv _,dv _,⟨.nd (.con True),[3,1]⟩,⟨.nd (.two 12 11 fun a b=>a=b),[]⟩] [ge _,ge _,ge _,⟨.emp,[(0,.one 0 fun v=>.row (α:=GR) 71 v ([])),(4,.one 4 fun v=>.row (α:=GR) 71 v ([]++(l.take i))),(7,.one 7 fun v=>.row (α:=GR) 71 v (([]++(l.take i))++[x])),(11,.one 11 fun v=>.row (α:=GR) 71 v ((([]++(l.take i))++[x])++(l.drop i)))]⟩,⟨.emp,[(6,.one 6 fun v=>.row (α:=GR) 71 v ([x]))]⟩] h rfl (by kernel_rfl) ⟨fun _ _=>mo (ψ:=fun v=>NN v 0) (B:=fun v=>[.row (α:=GR) 71 v ([])]) [.emp] rfl (fun v _=>by simp only [dO,bA] <;> rfl) (fun v hv=>by simpa [DF.one,bA] using hv) (jX (cA (α:=GR) (xs:=[]) (vs:=[]) [] n7 rfl rfl rfl DC)),fun _ _=>om rfl,fun _ _=>om rfl,fun _ _=>bg (r_cut (n:=i) uu66 zz71 rfl rfl (h.row_view 1 rfl) og),fun ξ hφ=>mo (B:=fun v=>[.row (α:=GR) 71 v ([]++(l.take i)),.row (α:=GR) 71 lv l]) [.row (α:=GR) 71 (ξ 0) ([]),.row (α:=GR) 71 lv l] rfl (fun v _=>by simp only [dO,bA] <;> rfl) (fun _ _=>trivial) (fe (xs:=[]) (ys:=(l.take i)) n7 (fun w hs=>((row_view hs 0 rfl).cut og)) rfl rfl og),fun _ _=>js _ rfl rfl (jr aa71 zz71 rfl rfl rfl (v:=(vR x)) rfl),fun _ _=>mo (ψ:=fun v=>NN v 1) (B:=fun v=>[.row (α:=GR) 71 v ([x])]) [.emp] rfl (fun v _=>by simp only [dO,bA] <;> rfl) (fun v hv=>by simpa [DF.one,bA] using hv) (jX (cA (α:=GR) (xs:=[.tmp 28]) (vs:=[(vR x)]) [x] n7 rfl rfl rfl DC)),fun ξ hφ=>mo (B:=fun v=>[.row (α:=GR) 71 v (([]++(l.take i))++[x]),.row (α:=GR) 71 (ξ 6) ([x])]) [.row (α:=GR) 71 (ξ 4) ([]++(l.take i)),.row (α:=GR) 71 (ξ 6) ([x])] rfl (fun v _=>by simp only [dO,bA] <;> rfl) (fun _ _=>trivial) (fe (xs:=([]++(l.take i))) (ys:=[x]) n7 (fun w hs=>(row_view hs 0 rfl)) rfl rfl og),fun _ _=>om rfl,fun _ _=>om rfl,fun _ _=>bg (r_from (n:=i) uu66 zz71 rfl rfl (h.row_view 1 rfl) og),fun ξ hφ=>mo (B:=fun v=>[.row (α:=GR) 71 v ((([]++(l.take i))++[x])++(l.drop i)),.row (α:=GR) 71 lv l]) [.row (α:=GR) 71 (ξ 7) (([]++(l.take i))++[x]),.row (α:=GR) 71 lv l] rfl (fun v _=>by simp only [dO,bA] <;> rfl) (fun _ _=>trivial) (fe (xs:=(([]++(l.take i))++[x])) (ys:=(l.drop i)) n7 (fun w hs=>((row_view hs 0 rfl).dropv og)) rfl rfl og),fun ξ hφ=>ob_n (φ:=.two 12 11 fun a b=>a=b) (v:=ξ 11) [] rfl rfl (by show upd ξ 12 (ξ 11) 12=upd ξ 12 (ξ 11) 11; rw [bA,lP DC]) (ay rfl),trivial⟩ ?_
    clear h ac wo; intro ξ ac wo hφ h
    replace h:St w0 39 [(4,ξ 12)] [.blk b1 (cR x) 71,.row (α:=GR) 71 lv l,B,.row (α:=GR) 71 (ξ 11) ((([]++(l.take i))++[x])++(l.drop i))] ac wo:=(h.pick [0,1,2,3] DC).sub ⟨rfl,trivial⟩
    rw [show ξ 12=ξ 11 from hφ 12] at h
    generalize hsv11:ξ 11=sv3 at h; clear hsv11
    clear hφ ξ
    have hr1:=iH hL1 pt
    have hd:aw l x=((([]++(l.take i))++[x])++(l.drop i)):=pt
    exact (rx h) fun _ _ h=>((h.pick [3,2] DC).retY (by rw [hd]; exact ⟨(All.app (All.app (All.app All.nil (All.take zl)) (All.cons zx All.nil)) (All.drop zl)),og⟩) (by rw [hd]; rfl))
   ·
    have hd3:=ne_of_beq_false hc3
    have hg:=bI hL1 pt
    exact (nx h) fun _ _ h=>by exact ⟨m1,og,_,og,hg,og,h.re [0,1,2]⟩
 ·
  have hd1:=of_decide_eq_false hc1
  have hx1:=cG hL1 pt
  refine gz h <| (W) ?_; clear h ac wo; intro ac wo h
  refine nw h (cA (α:=GR) (xs:=[.tmp 36]) (vs:=[(vR x)]) [x] n7 rfl rfl rfl DC) rfl ?_; clear h ac wo; intro sv4 ac wo nnsv4 h
  refine on2 h 2 0 rfl rfl (fe (xs:=l) (ys:=[x]) n7 (fun w hs=>(row_view hs 0 rfl)) rfl rfl og) rfl ?_; clear h ac wo; intro sv5 ac wo apsv5 h
  have hd:aw l x=(l++[x]):=pt
  exact (rx h) fun _ _ h=>((h.pick [0,3] DC).retY (by rw [hd]; exact ⟨(All.app zl (All.cons zx All.nil)),og⟩) (by rw [hd]; rfl))
attribute [irreducible] aw
end Go.Sx
namespace Go.Sx
open Go Go.RowKit Go.Proofs
attribute [local irreducible] Code.wp wpList Rd gW ObS Ent
attribute [local irreducible] an bB ah aO az c8
def yK (x:List Int) (x8:Nat):Int :=
 0
def ly (x:List Int) (x8:Nat):Nx Nat Int :=
 bif (decide ((x8:Int) < (x.length:Int))) then
  bif ((gt x x8) != 0) then
   .ret (gt x x8)
  else
   .go (x8+1)
 else
  .out x8
def nU (x:List Int):Int :=
 fin (bt (fun s=>ly x s) ((x.length - 0)+1) 0) (fun s=>yK x s) (fun r=>r)
theorem yJ (x:List Int) (xv:Value) (w0:World) (hxv:View w0 xv x):Calls zP 227 #[xv] w0 (RetP w0 (.int .i64 (nU x)) (True)):=by
 refine enter (N:=18) Tryz.func227 rfl rfl ?_; intro ac h
 have hlenx:=hxv.len
 obtain ⟨X1,hX1⟩:∃ X,bt (fun s=>ly x s) ((x.length - 0)+1) 0=X:=⟨_,rfl⟩
 refine gz h <| (W) ?_; clear h; intro _ _ h
 refine wp_loop_ghost (fun n_ a_ w_=>∃ (x8:Nat),((x.length - x8) < n_)∧(bt (fun s=>ly x s) n_ x8=X1)∧(x8≤x.length)∧St w0 18 [(3,(.int .i64 0)),(6,xv),(7,(iN x.length)),(8,(iN x8))] [] a_ w_) ((x.length - 0)+1) ⟨0,og,hX1,og,h.rs⟩ ?_
 clear h; rintro n1 _ _ ⟨x8,hm1,hL1,hx8,h⟩
 obtain ⟨m1,rfl⟩:∃ m,n1=m+1:=⟨n1 - 1,by omega⟩
 refine gz h <| (ai) ?_ ?_ <;> clear h <;> intro _ _ h hc1
 ·
  have hd1:=of_decide_eq_true hc1
  refine gz h <| (ai) ?_ ?_ <;> clear h <;> intro _ _ h hc2
  ·
   have q:=hc2; try simp at q
   have hr1:=iH hL1 pt
   have hd:nU x=(gt x x8):=pt
   exact (rx h) fun _ _ h=>(h.retP (by rw [hd] <;> rfl) trivial)
  ·
   have q:=hc2; try simp at q
   have hg:=bI hL1 pt
   exact (nx h) fun _ _ h=>by exact ⟨m1,og,_,og,hg,og,h.re []⟩
 ·
  have hd1:=of_decide_eq_false hc1
  have hx1:=cG hL1 pt
  have hd:nU x=0:=pt
  exact (rx h) fun _ _ h=>(h.retP (by rw [hd] <;> rfl) trivial)
attribute [irreducible] nU
end Go.Sx
namespace Go.Sx
open Go Go.RowKit Go.Proofs
attribute [local irreducible] Code.wp wpList Rd gW ObS Ent
attribute [local irreducible] an bB ah aO az c8
theorem sK (w : World) : (method (Tryz.prog.types.size + Made.depth) 59 (.agg #[]) "Equal").run zP w = .ok (372, .agg #[]) w := kM (P := zP) (T := 59) Tryz.type59 (by kernel_rfl) uu59 w
instance zi37 : Mt zP 59 (.agg #[]) "Equal" 372 := ⟨sK⟩
theorem rn (w : World) : (nilAhead (Tryz.prog.types.size + Made.depth) 59 (.agg #[]) "Equal").run zP w = .ok (some false) w := jn (P := zP) (T := 59) (f := 372) Tryz.type59 (by kernel_rfl) uu59 w
instance zi38 : Nl zP 59 (.agg #[]) "Equal" := ⟨rn⟩
theorem rA (w : World) : (method (Tryz.prog.types.size + Made.depth) 59 (.agg #[]) "Reduce").run zP w = .ok (373, .agg #[]) w := kM (P := zP) (T := 59) Tryz.type59 (by kernel_rfl) uu59 w
instance zi39 : Mt zP 59 (.agg #[]) "Reduce" 373 := ⟨rA⟩
theorem qv (w : World) : (nilAhead (Tryz.prog.types.size + Made.depth) 59 (.agg #[]) "Reduce").run zP w = .ok (some false) w := jn (P := zP) (T := 59) (f := 373) Tryz.type59 (by kernel_rfl) uu59 w
instance zi40 : Nl zP 59 (.agg #[]) "Reduce" := ⟨qv⟩
theorem t8 (w : World) : (method (Tryz.prog.types.size + Made.depth) 59 (.agg #[]) "Same").run zP w = .ok (374, .agg #[]) w := kM (P := zP) (T := 59) Tryz.type59 (by kernel_rfl) uu59 w
instance zi41 : Mt zP 59 (.agg #[]) "Same" 374 := ⟨t8⟩
theorem sG (w : World) : (nilAhead (Tryz.prog.types.size + Made.depth) 59 (.agg #[]) "Same").run zP w = .ok (some false) w := jn (P := zP) (T := 59) (f := 374) Tryz.type59 (by kernel_rfl) uu59 w
instance zi42 : Nl zP 59 (.agg #[]) "Same" := ⟨sG⟩
end Go.Sx
