import Derived.Test.YtbenbmdkhcfcfaaGreatDoorH1
set_option linter.unusedVariables false
set_option linter.unusedSimpArgs false
open Go.Proofs.Tryz renaming prog → zP, underlying50 → nn50, call229 → cc229, sizeOf50 → zz50, runUnderlying126 → uu126, sizeOf86 → zz86, runUnderlying86 → uu86, sizeOf71 → zz71, isAgg71 → aa71
namespace Go.Sx
open Go Go.RowKit Go.Proofs
set_option maxRecDepth 100000
set_option maxHeartbeats 40000000
attribute [local irreducible] Code.wp wpList Rd gW ObS Ent
attribute [local irreducible] an bB ah aO az c8
theorem slt50:SlT zP 50 126 32 360 (zc [2,2,2,2,1,2,2,2,2,1,1,1,2,2,2,2,2,2]):=⟨nn50,Tryz.t126,_,Tryz.type126,rfl,rfl,rfl,rfl,rfl,by decide,by decide⟩
def aX (f:Qd) (g:Qd):Bool :=
 (decide (f=g))
theorem gg (f:Qd) (g:Qd) (zf:SzD 20 f) (zg:SzD 20 g) (w0:World):Calls zP 367 #[(.agg #[]),(vD f),(vD g)] w0 (RetP w0 (.bool (aX f g)) (True)):=by
 refine enter (N:=10) Tryz.func367 rfl rfl ?_; intro ac h
 refine gz h <| (xb) fun b1=>(xb) fun b2=>(xb) fun b3=>(W) ?_; clear h; intro _ _ h
 exact (rt h) (h.retP (by unfold aX; rfl) trivial)
attribute [irreducible] aX
def aB (f:Qd) (g:Qd) (t:GR):Bool :=
 (fG f g t)
theorem dT (f:Qd) (g:Qd) (t:GR) (zf:SzD 20 f) (zg:SzD 20 g) (zt:SzR 30 t) (w0:World):Calls zP 369 #[(.agg #[]),(vD f),(vD g),(vR t)] w0 (RetP w0 (.bool (aB f g t)) (True)):=by
 refine enter (N:=13) Tryz.func369 rfl rfl ?_; intro ac h
 refine gz h <| (xb) fun b1=>(xb) fun b2=>(xb) fun b3=>(xb) fun b4=>(xk (jI f g t 6 og zf zg (cr zt og))) <| (W) ?_; clear h; intro _ _ h
 exact (rt h) (h.retP (by unfold aB; rfl) trivial)
attribute [irreducible] aB
def ar (f:Qd) (t:GR):Qd :=
 (bX f t)
theorem fU (f:Qd) (t:GR) (zf:SzD 30 f) (zt:SzR 30 t) (w0:World):Calls zP 368 #[(.agg #[]),(vD f),(vR t)] w0 (RetP w0 (vD (ar f t)) (SzD 20 (ar f t))):=by
 refine enter (N:=10) Tryz.func368 rfl rfl ?_; intro ac h
 have c1:=i6 f t 20 og zf zt
 have s1:=au (c1 w0)
 refine gz h <| (xb) fun b1=>(xb) fun b2=>(xb) fun b3=>(xa) fun b4=>(xk (c1)) <| (W) ?_; clear h; intro _ _ h
 exact ret h rfl (.cell (v:=(vD (bX f t))) rfl (i:=0) rfl Tryz.isAgg53 Tryz.sizeOf53 rfl rfl rfl .nil) rfl (h.retP (by unfold ar; rfl) (by unfold ar; exact s1))
attribute [irreducible] ar
def aZ (s:List (U Qd)):(List (U Qd)):=s
theorem fz (s:List (U Qd)) (sv:Value) (hl:s.length≤1000) (zs:All (gk 30) s) (w0:World) (hsv:View w0 sv s):Calls zP 223 #[sv] w0 (RetR w0 126 (aZ s) (All (gk 30) (aZ s)∧(aZ s)=s∧(aZ s).length=s.length)):=by
 refine enter (N:=8) Tryz.func223 rfl rfl ?_; intro ac h
 have hlens:=hsv.len
 refine gz h <| (xo (hs:=by exact r_eqlSN nn50 hsv.sl rfl)) <| (ai) ?_ ?_ <;> clear h <;> intro _ _ h hc1
 ·
  have q:=hc1; try simp at q
  refine gz h <| (W) ?_; clear h; intro _ _ h
  replace h:=h.nilRow (α:=U Qd) 126
  have hd:aZ s=[]:=(hsv.nil hc1).1
  exact (rt h) (by rw [hd]; exact h.retR 0 rfl ⟨All.nil,⟨(hsv.nil hc1).1.symm,by rw [(hsv.nil hc1).1]⟩⟩)
 ·
  have q:=hc1; try simp at q
  refine gz h <| (W) ?_; clear h; intro _ _ h
  refine nw h (cA (α:=U Qd) (xs:=[]) (vs:=[]) [] slt50 rfl rfl rfl DC) rfl ?_; clear h; intro sv2 _ _ nnsv2 h
  refine gz h <| (W) ?_; clear h; intro _ _ h
  refine on1 h 0 rfl (s_appV (xs:=[]) (ys:=s) slt50 hsv rfl rfl og) rfl ?_; clear h; intro sv3 _ _ apsv3 h
  exact (rx h) fun _ _ h=>(by unfold aZ; exact h.retR 0 rfl ⟨(All.app All.nil zs),⟨rfl,rfl⟩⟩)
attribute [irreducible] aZ
def aU (i:Iv):Int :=
 bif i.openLo then
  1
 else
  0
theorem fi (i:Iv) (zi:SzV 30 i) (w0:World):Calls zP 226 #[(vV i)] w0 (RetP w0 (.int .i64 (aU i)) ((-1≤(aU i)∧(aU i)≤1))):=by
 refine enter (N:=5) Tryz.func226 rfl rfl ?_; intro ac h
 refine gz h <| (xb) fun b1=>(ai) ?_ ?_ <;> clear h <;> intro _ _ h hc1
 ·
  have q:=hc1; try simp at q
  have hd:aU i=1:=pt
  exact (rx h) fun _ _ h=>(h.retP (by rw [hd] <;> rfl) (by rw [hd]; exact og))
 ·
  have q:=hc1; try simp at q
  have hd:aU i=0:=pt
  exact (rx h) fun _ _ h=>(h.retP (by rw [hd] <;> rfl) (by rw [hd]; exact og))
attribute [irreducible] aU
def eT (l:List (U Qd)) (t:GR):Bool :=
 (((decide ((l.length:Int)>0)) && (decide (((gt l (l.length - 1)).iv).hi=t))) && (!((gt l (l.length - 1)).iv).openHi))
theorem ks (l:List (U Qd)) (lv:Value) (t:GR) (zl:All (gk 20) l) (zt:SzR 30 t) (w0:World) (hlv:View w0 lv l):Calls zP 151 #[lv,(vR t)] w0 (RetP w0 (.bool (eT l t)) (True)):=by
 refine enter (N:=31) Tryz.func151 rfl rfl ?_; intro ac h
 have hlenl:=hlv.len
 refine gz h <| (xb) fun b1=>(dr0 (hob:=oE)) <| (W) ?_; clear h; intro _ _ h
 exact (rt h) (h.retP (by unfold eT; rfl) trivial)
attribute [irreducible] eT
def iL (l:List (U Qd)) (x10:Nat) (out:List (U Qd)):(List (U Qd)) :=
 out
def dS (l:List (U Qd)) (x10:Nat) (out:List (U Qd)):Nx (Nat×(List (U Qd))) (List (U Qd)) :=
 bif (decide ((x10:Int) < (l.length:Int))) then
  bif (!((gt l x10).iv).openLo) then
   bif (aN ((gt l x10).iv)) then
    .go ((x10+1),(out++[(⟨(⟨((gt l x10).iv).lo,((gt l x10).iv).lo,false,false⟩:Iv),(gt l x10).f⟩:U Qd)]))
   else
    bif (!((gt l x10).iv).openHi) then
     .go ((x10+1),(((out++[(⟨(⟨((gt l x10).iv).lo,((gt l x10).iv).lo,false,false⟩:Iv),(gt l x10).f⟩:U Qd)])++[(⟨(⟨((gt l x10).iv).lo,((gt l x10).iv).hi,true,true⟩:Iv),(gt l x10).f⟩:U Qd)])++[(⟨(⟨((gt l x10).iv).hi,((gt l x10).iv).hi,false,false⟩:Iv),(gt l x10).f⟩:U Qd)]))
    else
     .go ((x10+1),((out++[(⟨(⟨((gt l x10).iv).lo,((gt l x10).iv).lo,false,false⟩:Iv),(gt l x10).f⟩:U Qd)])++[(⟨(⟨((gt l x10).iv).lo,((gt l x10).iv).hi,true,true⟩:Iv),(gt l x10).f⟩:U Qd)]))
  else
   bif (aN ((gt l x10).iv)) then
    .go ((x10+1),out)
   else
    bif (!((gt l x10).iv).openHi) then
     .go ((x10+1),((out++[(⟨(⟨((gt l x10).iv).lo,((gt l x10).iv).hi,true,true⟩:Iv),(gt l x10).f⟩:U Qd)])++[(⟨(⟨((gt l x10).iv).hi,((gt l x10).iv).hi,false,false⟩:Iv),(gt l x10).f⟩:U Qd)]))
    else
     .go ((x10+1),(out++[(⟨(⟨((gt l x10).iv).lo,((gt l x10).iv).hi,true,true⟩:Iv),(gt l x10).f⟩:U Qd)]))
 else
  .out (x10,out)
def af (l:List (U Qd)):(List (U Qd)) :=
 fin (bt (fun s=>dS l s.1 s.2) ((l.length - 0)+1) (0,[])) (fun s=>iL l s.1 s.2) (fun r=>r)
theorem kb (l:List (U Qd)) (lv:Value) (hl:l.length≤1000) (zl:All (gk 30) l) (w0:World) (hlv:View w0 lv l):Calls zP 149 #[lv] w0 (RetR w0 126 (af l) (All (gk 30) (af l)∧(af l).length≤3*l.length)):=by
 refine enter (N:=54) Tryz.func149 rfl rfl ?_; intro ac h
 have hlenl:=hlv.len
 refine gz h <| (xa) fun b1=>(xo (hs:=by exact qI rfl)) <| (W) ?_; clear h ac; intro ac wo h
 replace h:=h.nilRow (α:=U Qd) 126
 obtain ⟨X1,hX1⟩:∃ X,bt (fun s=>dS l s.1 s.2) ((l.length - 0)+1) (0,[])=X:=⟨_,rfl⟩
 refine wp_loop_ghost (fun n_ a_ w_=>∃ (x10:Nat) (out:List (U Qd)) (outv:Value),((l.length - x10) < n_)∧(bt (fun s=>dS l s.1 s.2) n_ (x10,out)=X1)∧(x10≤l.length)∧(All (gk 30) out)∧(out.length≤3*x10)∧St w0 54 [(3,(ptr b1 0)),(4,(.func (.func 229) #[] #[(ptr b1 0)])),(8,lv),(9,(iN l.length)),(10,(iN x10))] [.row (α:=U Qd) 126 outv out,.blk b1 [outv] 50] a_ w_) ((l.length - 0)+1) ⟨0,[],(.slice none 0 0),og,hX1,og,All.nil,og,h.rs⟩ ?_
 clear h ac wo; rintro n1 ac wo ⟨x10,out,outv,hm1,hL1,hx10,zout,hol,h⟩
 obtain ⟨m1,rfl⟩:∃ m,n1=m+1:=⟨n1 - 1,by omega⟩
 refine gz h <| (ai) ?_ ?_ <;> clear h ac wo <;> intro ac wo h hc1
 ·
  have hd1:=of_decide_eq_true hc1
  refine gz h <| (xa) fun b2=>(ai) ?_ ?_ <;> clear h ac wo <;> intro ac wo h hc2
  ·
   have q:=hc2; try simp at q
   refine gz h <| (W) ?_; clear h ac wo; intro ac wo h
   refine inl (vs:=[(vR (((gt l x10).iv).lo)),(vD ((gt l x10).f)),(ptr b1 0)]) (M:=13) h (ug (vs:=[(vR (((gt l x10).iv).lo)),(vD ((gt l x10).f))]) (cap:=[(ptr b1 0)]) cc229 rfl rfl) Tryz.func229 rfl rfl rfl ?_
   clear h ac; intro R1 hR1 ac h
   refine gz h <| (xb) fun b3=>(xb) fun b4=>(xo (hs:=by exact bN qf exs rfl (v:=(vV (⟨((gt l x10).iv).lo,((gt l x10).iv).lo,false,false⟩:Iv))) rfl)) <| (xo (hs:=by exact bN jh exs rfl (v:=(vUD (⟨(⟨((gt l x10).iv).lo,((gt l x10).iv).lo,false,false⟩:Iv),(gt l x10).f⟩:U Qd))) rfl)) <| ?_; clear h ac wo; intro ac wo h
   refine nw h (cA (α:=U Qd) (xs:=[.tmp 10]) (vs:=[(vUD (⟨(⟨((gt l x10).iv).lo,((gt l x10).iv).lo,false,false⟩:Iv),(gt l x10).f⟩:U Qd))]) [(⟨(⟨((gt l x10).iv).lo,((gt l x10).iv).lo,false,false⟩:Iv),(gt l x10).f⟩:U Qd)] slt50 rfl rfl rfl DC) rfl ?_; clear h ac wo; intro sv2 ac wo nnsv2 h
   refine on2 h 4 0 rfl rfl (fe (xs:=out) (ys:=[(⟨(⟨((gt l x10).iv).lo,((gt l x10).iv).lo,false,false⟩:Iv),(gt l x10).f⟩:U Qd)]) slt50 (fun w hs=>(row_view hs 0 rfl)) rfl rfl og) rfl ?_; clear h ac wo; intro sv3 ac wo apsv3 h
   refine st h 5 [sv3] rfl zz50 rfl rfl (nC (h.row_sl 0 rfl)) rfl (si (h.row_sl 0 rfl)) rfl rfl ?_; clear h ac wo; intro ac wo h
   refine gz h <| (W) ?_; clear h ac wo; intro ac wo h
   refine oP (rs:=[]) (vs:=[]) h rfl .nil rfl (hR1 _ _ _ h.bel h.sep ?_)
   clear h ac hR1; intro ac h
   refine gz h <| (xk (e9 ((gt l x10).iv))) <| (ai) ?_ ?_ <;> clear h ac wo <;> intro ac wo h hc3
   ·
    have q:=hc3; try simp at q
    have hg:=bI hL1 pt
    exact (nx h) fun _ _ h=>by exact ⟨m1,og,_,_,_,og,hg,og,(All.app zout (All.cons ⟨⟨((All.gt zl (bL _)).1).1,((All.gt zl (bL _)).1).1⟩,(All.gt zl (bL _)).2⟩ All.nil)),og,h.re [0,5]⟩
   ·
    have q:=hc3; try simp at q
    refine gz h <| (xo (hs:=by exact bN qf exs rfl (v:=(vV (⟨((gt l x10).iv).lo,((gt l x10).iv).hi,true,true⟩:Iv))) rfl)) <| (xo (hs:=by exact bN jh exs rfl (v:=(vUD (⟨(⟨((gt l x10).iv).lo,((gt l x10).iv).hi,true,true⟩:Iv),(gt l x10).f⟩:U Qd))) rfl)) <| ?_; clear h ac wo; intro ac wo h
    refine nw h (cA (α:=U Qd) (xs:=[.tmp 38]) (vs:=[(vUD (⟨(⟨((gt l x10).iv).lo,((gt l x10).iv).hi,true,true⟩:Iv),(gt l x10).f⟩:U Qd))]) [(⟨(⟨((gt l x10).iv).lo,((gt l x10).iv).hi,true,true⟩:Iv),(gt l x10).f⟩:U Qd)] slt50 rfl rfl rfl DC) rfl ?_; clear h ac wo; intro sv4 ac wo nnsv4 h
    refine on2 h 1 0 rfl rfl (fe (xs:=(out++[(⟨(⟨((gt l x10).iv).lo,((gt l x10).iv).lo,false,false⟩:Iv),(gt l x10).f⟩:U Qd)])) (ys:=[(⟨(⟨((gt l x10).iv).lo,((gt l x10).iv).hi,true,true⟩:Iv),(gt l x10).f⟩:U Qd)]) slt50 (fun w hs=>(row_view hs 0 rfl)) rfl rfl og) rfl ?_; clear h ac wo; intro sv5 ac wo apsv5 h
    refine st h 6 [sv5] rfl zz50 rfl rfl (nC (h.row_sl 0 rfl)) rfl (si (h.row_sl 0 rfl)) rfl rfl ?_; clear h ac wo; intro ac wo h
    refine gz h <| (ai) ?_ ?_ <;> clear h ac wo <;> intro ac wo h hc4
    ·
     have q:=hc4; try simp at q
     refine gz h <| (W) ?_; clear h ac wo; intro ac wo h
     refine inl (vs:=[(vR (((gt l x10).iv).hi)),(vD ((gt l x10).f)),(ptr b1 0)]) (M:=13) h (ug (vs:=[(vR (((gt l x10).iv).hi)),(vD ((gt l x10).f))]) (cap:=[(ptr b1 0)]) cc229 rfl rfl) Tryz.func229 rfl rfl rfl ?_
     clear h ac; intro R2 hR2 ac h
     refine gz h <| (xb) fun b5=>(xb) fun b6=>(xo (hs:=by exact bN qf exs rfl (v:=(vV (⟨((gt l x10).iv).hi,((gt l x10).iv).hi,false,false⟩:Iv))) rfl)) <| (xo (hs:=by exact bN jh exs rfl (v:=(vUD (⟨(⟨((gt l x10).iv).hi,((gt l x10).iv).hi,false,false⟩:Iv),(gt l x10).f⟩:U Qd))) rfl)) <| ?_; clear h ac wo; intro ac wo h
     refine nw h (cA (α:=U Qd) (xs:=[.tmp 10]) (vs:=[(vUD (⟨(⟨((gt l x10).iv).hi,((gt l x10).iv).hi,false,false⟩:Iv),(gt l x10).f⟩:U Qd))]) [(⟨(⟨((gt l x10).iv).hi,((gt l x10).iv).hi,false,false⟩:Iv),(gt l x10).f⟩:U Qd)] slt50 rfl rfl rfl DC) rfl ?_; clear h ac wo; intro sv6 ac wo nnsv6 h
     refine on2 h 3 0 rfl rfl (fe (xs:=((out++[(⟨(⟨((gt l x10).iv).lo,((gt l x10).iv).lo,false,false⟩:Iv),(gt l x10).f⟩:U Qd)])++[(⟨(⟨((gt l x10).iv).lo,((gt l x10).iv).hi,true,true⟩:Iv),(gt l x10).f⟩:U Qd)])) (ys:=[(⟨(⟨((gt l x10).iv).hi,((gt l x10).iv).hi,false,false⟩:Iv),(gt l x10).f⟩:U Qd)]) slt50 (fun w hs=>(row_view hs 0 rfl)) rfl rfl og) rfl ?_; clear h ac wo; intro sv7 ac wo apsv7 h
     refine st h 9 [sv7] rfl zz50 rfl rfl (nC (h.row_sl 0 rfl)) rfl (si (h.row_sl 0 rfl)) rfl rfl ?_; clear h ac wo; intro ac wo h
     refine gz h <| (W) ?_; clear h ac wo; intro ac wo h
     refine oP (rs:=[]) (vs:=[]) h rfl .nil rfl (hR2 _ _ _ h.bel h.sep ?_)
     clear h ac hR2; intro ac h
     have hg:=bI hL1 pt
     exact (nx h) fun _ _ h=>by exact ⟨m1,og,_,_,_,og,hg,og,(All.app (All.app (All.app zout (All.cons ⟨⟨((All.gt zl (bL _)).1).1,((All.gt zl (bL _)).1).1⟩,(All.gt zl (bL _)).2⟩ All.nil)) (All.cons ⟨⟨((All.gt zl (bL _)).1).1,((All.gt zl (bL _)).1).2⟩,(All.gt zl (bL _)).2⟩ All.nil)) (All.cons ⟨⟨((All.gt zl (bL _)).1).2,((All.gt zl (bL _)).1).2⟩,(All.gt zl (bL _)).2⟩ All.nil)),og,h.re [0,9]⟩
    ·
     have q:=hc4; try simp at q
     have hg:=bI hL1 pt
     exact (nx h) fun _ _ h=>by exact ⟨m1,og,_,_,_,og,hg,og,(All.app (All.app zout (All.cons ⟨⟨((All.gt zl (bL _)).1).1,((All.gt zl (bL _)).1).1⟩,(All.gt zl (bL _)).2⟩ All.nil)) (All.cons ⟨⟨((All.gt zl (bL _)).1).1,((All.gt zl (bL _)).1).2⟩,(All.gt zl (bL _)).2⟩ All.nil)),og,h.re [0,6]⟩
  ·
   have q:=hc2; try simp at q
   refine gz h <| (xk (e9 ((gt l x10).iv))) <| (ai) ?_ ?_ <;> clear h ac wo <;> intro ac wo h hc5
   ·
    have q:=hc5; try simp at q
    have hg:=bI hL1 pt
    exact (nx h) fun _ _ h=>by exact ⟨m1,og,_,_,_,og,hg,og,zout,og,h.re [1,2]⟩
   ·
    have q:=hc5; try simp at q
    refine gz h <| (xo (hs:=by exact bN qf exs rfl (v:=(vV (⟨((gt l x10).iv).lo,((gt l x10).iv).hi,true,true⟩:Iv))) rfl)) <| (xo (hs:=by exact bN jh exs rfl (v:=(vUD (⟨(⟨((gt l x10).iv).lo,((gt l x10).iv).hi,true,true⟩:Iv),(gt l x10).f⟩:U Qd))) rfl)) <| ?_; clear h ac wo; intro ac wo h
    refine nw h (cA (α:=U Qd) (xs:=[.tmp 38]) (vs:=[(vUD (⟨(⟨((gt l x10).iv).lo,((gt l x10).iv).hi,true,true⟩:Iv),(gt l x10).f⟩:U Qd))]) [(⟨(⟨((gt l x10).iv).lo,((gt l x10).iv).hi,true,true⟩:Iv),(gt l x10).f⟩:U Qd)] slt50 rfl rfl rfl DC) rfl ?_; clear h ac wo; intro sv8 ac wo nnsv8 h
    refine on2 h 2 0 rfl rfl (fe (xs:=out) (ys:=[(⟨(⟨((gt l x10).iv).lo,((gt l x10).iv).hi,true,true⟩:Iv),(gt l x10).f⟩:U Qd)]) slt50 (fun w hs=>(row_view hs 0 rfl)) rfl rfl og) rfl ?_; clear h ac wo; intro sv9 ac wo apsv9 h
    refine st h 3 [sv9] rfl zz50 rfl rfl (nC (h.row_sl 0 rfl)) rfl (si (h.row_sl 0 rfl)) rfl rfl ?_; clear h ac wo; intro ac wo h
    refine gz h <| (ai) ?_ ?_ <;> clear h ac wo <;> intro ac wo h hc6
    ·
     have q:=hc6; try simp at q
     refine gz h <| (W) ?_; clear h ac wo; intro ac wo h
     refine inl (vs:=[(vR (((gt l x10).iv).hi)),(vD ((gt l x10).f)),(ptr b1 0)]) (M:=13) h (ug (vs:=[(vR (((gt l x10).iv).hi)),(vD ((gt l x10).f))]) (cap:=[(ptr b1 0)]) cc229 rfl rfl) Tryz.func229 rfl rfl rfl ?_
     clear h ac; intro R3 hR3 ac h
     refine gz h <| (xb) fun b7=>(xb) fun b8=>(xo (hs:=by exact bN qf exs rfl (v:=(vV (⟨((gt l x10).iv).hi,((gt l x10).iv).hi,false,false⟩:Iv))) rfl)) <| (xo (hs:=by exact bN jh exs rfl (v:=(vUD (⟨(⟨((gt l x10).iv).hi,((gt l x10).iv).hi,false,false⟩:Iv),(gt l x10).f⟩:U Qd))) rfl)) <| ?_; clear h ac wo; intro ac wo h
     refine nw h (cA (α:=U Qd) (xs:=[.tmp 10]) (vs:=[(vUD (⟨(⟨((gt l x10).iv).hi,((gt l x10).iv).hi,false,false⟩:Iv),(gt l x10).f⟩:U Qd))]) [(⟨(⟨((gt l x10).iv).hi,((gt l x10).iv).hi,false,false⟩:Iv),(gt l x10).f⟩:U Qd)] slt50 rfl rfl rfl DC) rfl ?_; clear h ac wo; intro sv10 ac wo nnsv10 h
     refine on2 h 3 0 rfl rfl (fe (xs:=(out++[(⟨(⟨((gt l x10).iv).lo,((gt l x10).iv).hi,true,true⟩:Iv),(gt l x10).f⟩:U Qd)])) (ys:=[(⟨(⟨((gt l x10).iv).hi,((gt l x10).iv).hi,false,false⟩:Iv),(gt l x10).f⟩:U Qd)]) slt50 (fun w hs=>(row_view hs 0 rfl)) rfl rfl og) rfl ?_; clear h ac wo; intro sv11 ac wo apsv11 h
     refine st h 6 [sv11] rfl zz50 rfl rfl (nC (h.row_sl 0 rfl)) rfl (si (h.row_sl 0 rfl)) rfl rfl ?_; clear h ac wo; intro ac wo h
     refine gz h <| (W) ?_; clear h ac wo; intro ac wo h
     refine oP (rs:=[]) (vs:=[]) h rfl .nil rfl (hR3 _ _ _ h.bel h.sep ?_)
     clear h ac hR3; intro ac h
     have hg:=bI hL1 pt
     exact (nx h) fun _ _ h=>by exact ⟨m1,og,_,_,_,og,hg,og,(All.app (All.app zout (All.cons ⟨⟨((All.gt zl (bL _)).1).1,((All.gt zl (bL _)).1).2⟩,(All.gt zl (bL _)).2⟩ All.nil)) (All.cons ⟨⟨((All.gt zl (bL _)).1).2,((All.gt zl (bL _)).1).2⟩,(All.gt zl (bL _)).2⟩ All.nil)),og,h.re [0,6]⟩
    ·
     have q:=hc6; try simp at q
     have hg:=bI hL1 pt
     exact (nx h) fun _ _ h=>by exact ⟨m1,og,_,_,_,og,hg,og,(All.app zout (All.cons ⟨⟨((All.gt zl (bL _)).1).1,((All.gt zl (bL _)).1).2⟩,(All.gt zl (bL _)).2⟩ All.nil)),og,h.re [0,3]⟩
 ·
  have hd1:=of_decide_eq_false hc1
  have hx1:=cG hL1 pt
  have hd:af l=out:=pt
  exact (rx h) fun _ _ h=>(by rw [hd]; exact h.retR 0 rfl ⟨zout,og⟩)
attribute [irreducible] af
def bu (a:U Qd) (b:U Qd):Int :=
 (nU ([(an a.iv.lo b.iv.lo),(c8 (aU a.iv) (aU b.iv)),(an a.iv.hi b.iv.hi)]))
theorem eK (a:U Qd) (b:U Qd) (za:gk 30 a) (zb:gk 30 b) (w0:World):Calls zP 225 #[(vUD a),(vUD b)] w0 (RetP w0 (.int .i64 (bu a b)) (True)):=by
 refine enter (N:=31) Tryz.func225 rfl rfl ?_; intro ac h
 have p2:=au ((aS a.iv.lo b.iv.lo 10 og za.1.1 zb.1.1) w0)
 refine gz h <| (xb) fun b1=>(xb) fun b2=>(W) ?_; clear h ac; intro ac wo h
 have s3:=Calls.pr ((fun w_ hB_ hS_=>fi a.iv za.1 w_ ) _ h.bel h.sep)
 have p4:=s3
 have s5:=Calls.pr ((fun w_ hB_ hS_=>fi b.iv zb.1 w_ ) _ h.bel h.sep)
 have p6:=s5
 have p8:=au ((lz (aU a.iv) (aU b.iv)) w0)
 have p10:=au ((aS a.iv.hi b.iv.hi 10 og za.1.2 zb.1.2) w0)
 replace h:=h.emps 1
 refine im mixed [dv _,dv _,dw _ [1],dv _,dv _,dw _ [0],dv _,dv _,dv _,dw _ [1],dv _,dv _,dv _,dw _ [0],dv _,dv _,dv _,dv _,dw _ [1],dv _,dv _,dw _ [0],dv _,⟨.nd (.one 23 fun v=>NN v 3),[2]⟩,dw _ [2],dv _] [ge _,ge _,⟨.emp,[(23,.one 23 fun v=>.row (α:=Int) 3 v ([(an a.iv.lo b.iv.lo),(c8 (aU a.iv) (aU b.iv)),(an a.iv.hi b.iv.hi)]))]⟩] h rfl (by kernel_rfl) ⟨fun _ _=>bg (fa uu126 rfl zz86 rfl rfl rfl (k':=0)),fun _ _=>bg (fa uu86 rfl zz71 rfl rfl rfl (k':=0)),fun _ _=>js _ rfl rfl (jr aa71 zz71 rfl rfl rfl (v:=(vR a.iv.lo)) rfl),fun _ _=>bg (fa uu126 rfl zz86 rfl rfl rfl (k':=0)),fun _ _=>bg (fa uu86 rfl zz71 rfl rfl rfl (k':=0)),fun _ _=>js _ rfl rfl (jr aa71 zz71 rfl rfl rfl (v:=(vR b.iv.lo)) rfl),fun _ _=>kD (fB (ck Tryz.call127 rfl) (kk (aS a.iv.lo b.iv.lo 10 og za.1.1 zb.1.1))),fun _ _=>om rfl,fun _ _=>bg (fa uu126 rfl zz86 rfl rfl rfl (k':=0)),fun _ _=>js _ rfl rfl (jr Tryz.isAgg86 zz86 rfl rfl rfl (v:=(vV a.iv)) rfl),fun _ _=>kD (fB (ug (cap:=[]) Tryz.call226 rfl rfl) (kk (fi a.iv za.1))),fun _ _=>om rfl,fun _ _=>bg (fa uu126 rfl zz86 rfl rfl rfl (k':=0)),fun _ _=>js _ rfl rfl (jr Tryz.isAgg86 zz86 rfl rfl rfl (v:=(vV b.iv)) rfl),fun _ _=>kD (fB (ug (cap:=[]) Tryz.call226 rfl rfl) (kk (fi b.iv zb.1))),fun _ _=>kD (fB (ck Tryz.call228 rfl) (kk (lz (aU a.iv) (aU b.iv)))),fun _ _=>bg (fa uu126 rfl zz86 rfl rfl rfl (k':=0)),fun _ _=>bg (fa uu86 rfl zz71 rfl rfl rfl (k':=9)),fun _ _=>js _ rfl rfl (jr aa71 zz71 rfl rfl rfl (v:=(vR a.iv.hi)) rfl),fun _ _=>bg (fa uu126 rfl zz86 rfl rfl rfl (k':=0)),fun _ _=>bg (fa uu86 rfl zz71 rfl rfl rfl (k':=9)),fun _ _=>js _ rfl rfl (jr aa71 zz71 rfl rfl rfl (v:=(vR b.iv.hi)) rfl),fun _ _=>kD (fB (ck Tryz.call127 rfl) (kk (aS a.iv.hi b.iv.hi 10 og za.1.2 zb.1.2))),fun _ _=>mo (ψ:=fun v=>NN v 3) (B:=fun v=>[.row (α:=Int) 3 v ([(an a.iv.lo b.iv.lo),(c8 (aU a.iv) (aU b.iv)),(an a.iv.hi b.iv.hi)])]) [.emp] rfl (fun v _=>by simp only [dO,bA] <;> rfl) (fun v hv=>by simpa [DF.one,bA] using hv) (jX (cA (α:=Int) (xs:=[.tmp 12,.tmp 21,.tmp 28]) (vs:=[(.int .i64 (an a.iv.lo b.iv.lo)),(.int .i64 (c8 (aU a.iv) (aU b.iv))),(.int .i64 (an a.iv.hi b.iv.hi))]) [(an a.iv.lo b.iv.lo),(c8 (aU a.iv) (aU b.iv)),(an a.iv.hi b.iv.hi)] slt358 rfl rfl rfl DC)),fun ξ hφ=>m0 _ [.row (α:=Int) 3 (ξ 23) ([(an a.iv.lo b.iv.lo),(c8 (aU a.iv) (aU b.iv)),(an a.iv.hi b.iv.hi)])] rfl rfl (fB (ck Tryz.call227 rfl) (fun w_ hB_ hS_=>yJ ([(an a.iv.lo b.iv.lo),(c8 (aU a.iv) (aU b.iv)),(an a.iv.hi b.iv.hi)]) (ξ 23) w_ (row_view hS_ 0 rfl))),fun _ _=>bg (ay rfl),trivial⟩ ?_
 clear h ac wo; intro ξ ac wo hφ h
 replace h:St w0 31 [(4,(.int .i64 (nU ([(an a.iv.lo b.iv.lo),(c8 (aU a.iv) (aU b.iv)),(an a.iv.hi b.iv.hi)]))))] [.blk b2 (cUD b) 126,.blk b1 (cUD a) 126] ac wo:=(h.pick [0,1] DC).sub ⟨rfl,trivial⟩
 clear hφ ξ
 exact (rx h) fun _ _ h=>(h.retP (by unfold bu; rfl) trivial)
attribute [irreducible] bu
def i5 (data:List (U Qd)) (a:Nat) (b:Nat) (i:Nat) (data1:List (U Qd)):List (U Qd) :=
 data1
def i4 (data:List (U Qd)) (a:Nat) (b:Nat) (i:Nat) (data1:List (U Qd)) (j:Nat) (data2:List (U Qd)):Nx (Nat×(List (U Qd))) (List (U Qd)) :=
 .go ((i+1),data2)
def ew (data:List (U Qd)) (a:Nat) (b:Nat) (i:Nat) (data1:List (U Qd)) (j:Nat) (data2:List (U Qd)):Nx (Nat×(List (U Qd))) (List (U Qd)) :=
 bif ((decide ((j:Int)>(a:Int))) && (decide ((bu (gt data2 j) (gt data2 (j - 1))) < 0))) then
  .go ((j - 1),((data2.set j (gt data2 (j - 1))).set (j - 1) (gt data2 j)))
 else
  .out (j,data2)
def ey (data:List (U Qd)) (a:Nat) (b:Nat) (i:Nat) (data1:List (U Qd)):Nx (Nat×(List (U Qd))) (List (U Qd)) :=
 bif (decide ((i:Int) < (b:Int))) then
  fin (bt (fun s=>ew data a b i data1 s.1 s.2) (i+1) (i,data1)) (fun s=>i4 data a b i data1 s.1 s.2) (fun r=>.ret r)
 else
  .out (i,data1)
def a7 (data:List (U Qd)) (a:Nat) (b:Nat):List (U Qd) :=
 fin (bt (fun s=>ey data a b s.1 s.2) ((b+1 - (a+1))+1) ((a+1),data)) (fun s=>i5 data a b s.1 s.2) (fun r=>r)
theorem fM (data:List (U Qd)) (datav:Value) (a:Nat) (b:Nat) (hab:a≤b) (hb:b≤data.length) (hb2:b≤1000) (zdata:All (gk 30) data) (w0 w:World) (B:Asn) (hbel:Below w0.heap.size w0 w) (hsep:∃ Z_,Sep w0.heap.size w [.row (α:=U Qd) 126 datav data,B] Z_):Calls zP 294 #[datav,(iN a),(iN b),(.func (.func 225) #[] #[])] w (RetY w0 (fun v=>v=.tuple #[]∧(All (gk 30) (a7 data a b)∧(a7 data a b).length=data.length)) (fun v=>[.row (α:=U Qd) 126 datav (a7 data a b),B])):=by
 refine lU (N:=53) Tryz.func294 rfl rfl hbel hsep ?_; intro ac h
 have hlendata:=h.len 0 rfl
 obtain ⟨X1,hX1⟩:∃ X,bt (fun s=>ey data a b s.1 s.2) ((b+1 - (a+1))+1) ((a+1),data)=X:=⟨_,rfl⟩
 refine gz h <| (W) ?_; clear h; intro _ _ h
 refine wp_loop_ghost (fun n_ a_ w_=>∃ (i:Nat) (data1:List (U Qd)),((b+1 - i) < n_)∧(bt (fun s=>ey data a b s.1 s.2) n_ (i,data1)=X1)∧(i≤b+1)∧(All (gk 30) data1)∧(data1.length=data.length)∧St w0 53 [(0,datav),(1,(iN a)),(2,(iN b)),(3,(.func (.func 225) #[] #[])),(8,(iN i))] [.row (α:=U Qd) 126 datav data1,B] a_ w_) ((b+1 - (a+1))+1) ⟨(a+1),data,og,hX1,og,zdata,og,h.rs⟩ ?_
 clear h; rintro n1 _ _ ⟨i,data1,hm1,hL1,hi,zdata1,hdl,h⟩
 obtain ⟨m1,rfl⟩:∃ m,n1=m+1:=⟨n1 - 1,by omega⟩
 refine gz h <| (ai) ?_ ?_ <;> clear h <;> intro _ _ h hc1
 ·
  have hd1:=of_decide_eq_true hc1
  obtain ⟨X2,hX2⟩:∃ X,bt (fun s=>ew data a b i data1 s.1 s.2) (i+1) (i,data1)=X:=⟨_,rfl⟩
  refine gz h <| (W) ?_; clear h; intro _ _ h
  refine wp_loop_ghost (fun n_ a_ w_=>∃ (j:Nat) (data2:List (U Qd)),(j < n_)∧(bt (fun s=>ew data a b i data1 s.1 s.2) n_ (j,data2)=X2)∧(All (gk 30) data2)∧(j≤i)∧(data2.length=data.length)∧St w0 53 [(0,datav),(1,(iN a)),(2,(iN b)),(3,(.func (.func 225) #[] #[])),(8,(iN i)),(9,(iN j))] [.row (α:=U Qd) 126 datav data2,B] a_ w_) (i+1) ⟨i,data1,og,hX2,zdata1,og,og,h.rs⟩ ?_
  clear h; rintro n2 _ _ ⟨j,data2,hm2,hL2,zdata2,hj,hdl2,h⟩
  obtain ⟨m2,rfl⟩:∃ m,n2=m+1:=⟨n2 - 1,by omega⟩
  refine gz h <| (dr0 (hob:=(oG (by exact fun hg=>eK (gt data2 j) (gt data2 (j - 1)) (All.gt zdata2 (bL _)) (All.gt zdata2 (bL _)))) <| oE)) <| (ai) ?_ ?_ <;> clear h <;> intro _ _ h hc2
  ·
   have q:=hc2; try simp at q
   refine gz h <| (dr1 (H:=[⟨.row (α:=U Qd) 126 datav data2,[(15,.con (.row (α:=U Qd) 126 datav (data2.set j (gt data2 (j - 1))))),(17,.con (.row (α:=U Qd) 126 datav ((data2.set j (gt data2 (j - 1))).set (j - 1) (gt data2 j))))]⟩,ge _]) (hob:=(oY (h:=by exact fun _=>m0 (acc:=[0]) _ [.row (α:=U Qd) 126 datav (data2.set j (gt data2 (j - 1)))] rfl rfl (ia (k:=0) (u':=(gt data2 (j - 1))) Tryz.sizeOf126 (ff og) rfl (Nat.add_zero _) rfl rfl rfl rfl rfl rfl))) <| (oY (h:=by exact fun _=>m0 (acc:=[0]) _ [.row (α:=U Qd) 126 datav ((data2.set j (gt data2 (j - 1))).set (j - 1) (gt data2 j))] rfl rfl (ia (k:=0) (u':=(gt data2 j)) Tryz.sizeOf126 (ff og) rfl (Nat.add_zero _) rfl rfl rfl rfl rfl rfl))) <| oE)) <| (W) ?_; clear h; intro _ _ h
   have hg:=bI hL2 pt
   exact aD ⟨m2,og,_,_,og,hg,(All.set (All.set zdata2 (All.gt zdata2 (bL _))) (All.gt zdata2 (bL _))),og,og,h.re [0,1]⟩
  ·
   have q:=hc2; try simp at q
   have hx2:=cG hL2 pt
   have hg:=bI hL1 pt
   exact (nx h) fun _ _ h=>by exact ⟨m1,og,_,_,og,hg,og,zdata2,og,h.re [0,1]⟩
 ·
  have hd1:=of_decide_eq_false hc1
  have hx1:=cG hL1 pt
  have hd:a7 data a b=data1:=pt
  refine gz h <| (W) ?_; clear h; intro _ _ h
  exact oP (vs:=[]) h rfl .nil rfl ((h.pick [0,1] DC).retY ⟨rfl,(by rw [hd]; exact ⟨zdata1,og⟩)⟩ (by rw [hd]; rfl))
attribute [irreducible] a7
def kg (data:List (U Qd)) (n:Nat) (a:Nat) (b:Nat) (data1:List (U Qd)) (blockSize:Nat):List (U Qd) :=
 (a7 data1 a n)
def ki (data:List (U Qd)) (n:Nat) (a:Nat) (b:Nat) (data1:List (U Qd)) (blockSize:Nat):Nx Nat (List (U Qd)) :=
 .out blockSize
def kh (data:List (U Qd)) (n:Nat) (a:Nat) (b:Nat) (data1:List (U Qd)):List (U Qd) :=
 fin (bt (fun s=>ki data n a b data1 s) (0+1) 20) (fun s=>kg data n a b data1 s) (fun r=>r)
def kj (data:List (U Qd)) (n:Nat) (a:Nat) (b:Nat) (data1:List (U Qd)):Nx (Nat×Nat×(List (U Qd))) (List (U Qd)) :=
 .out (a,b,data1)
def em (data:List (U Qd)) (n:Nat):List (U Qd) :=
 fin (bt (fun s=>kj data n s.1 s.2.1 s.2.2) (0+1) (0,20,data)) (fun s=>kh data n s.1 s.2.1 s.2.2) (fun r=>r)
attribute [irreducible] em
def cK (x:List (U Qd)):List (U Qd) :=
 (em x x.length)
attribute [irreducible] cK
def ao (l:List (U Qd)):(List (U Qd)) :=
 (cK (aZ l))
attribute [irreducible] ao
end Go.Sx
