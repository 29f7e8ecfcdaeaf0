import Derived.Test.YtbenbmdkhcfcfaaGreatDoorH1
set_option linter.unusedVariables false
set_option linter.unusedSimpArgs false
open Go.Proofs.Tryz renaming runUnderlying3 → uu3
namespace Go.Sx
open Go Go.RowKit Go.Proofs
set_option maxRecDepth 100000
set_option maxHeartbeats 40000000
attribute [local irreducible] Code.wp wpList Rd gW ObS Ent
attribute [local irreducible] an bB ah aO az c8
theorem slt50:SlT Tryz.prog 50 126 32 360 (zc [2,2,2,2,1,2,2,2,2,1,1,1,2,2,2,2,2,2]):=⟨Tryz.underlying50,Tryz.t126,_,Tryz.type126,rfl,rfl,rfl,rfl,rfl,by decide,by decide⟩
def fy (l:List Stp) (out:List (U Qd)) (at_:Nat) (root:Bool) (taken:Bool) (i:Nat) (before:Qd):(List (U Qd)) :=
 out
def cH (l:List Stp) (out:List (U Qd)) (at_:Nat) (root:Bool) (taken:Bool) (i:Nat) (before:Qd):Nx ((List (U Qd))×Nat×Bool×Bool×Nat×Qd) (List (U Qd)) :=
 bif ((decide ((i:Int) < (l.length:Int))) && (decide ((i:Int) < 8))) then
  bif (((((((gt l i).piece % 4):Nat):Int)) == (((2:Nat):Int))) && (!taken)) then
   bif ((((((gt l i).piece % 4):Nat):Int)) != (((0:Nat):Int))) then
    .go ((out++[(⟨(⟨(ae (at_:Int) root),(ae (((at_+3)+((gt l i).length % 3):Nat):Int) ((gt l i).root)),false,(!((((((gt l i).piece % 4):Nat):Int)) == (((3:Nat):Int))))⟩:Iv),(aj (gt l i))⟩:U Qd)]),((at_+3)+((gt l i).length % 3)),(gt l i).root,((((((gt l i).piece % 4):Nat):Int)) == (((3:Nat):Int))),(i+1),(aj (gt l i)))
   else
    .go (out,((at_+3)+((gt l i).length % 3)),(gt l i).root,((((((gt l i).piece % 4):Nat):Int)) == (((3:Nat):Int))),(i+1),(aj (gt l i)))
  else
   bif (!taken) then
    bif ((((((gt l i).point % 4):Nat):Int)) == (((1:Nat):Int))) then
     bif ((((((gt l i).piece % 4):Nat):Int)) != (((0:Nat):Int))) then
      .go (((out++[(⟨(⟨(ae (at_:Int) root),(ae (at_:Int) root),false,false⟩:Iv),(aj (gt l i))⟩:U Qd)])++[(⟨(⟨(ae (at_:Int) root),(ae (((at_+3)+((gt l i).length % 3):Nat):Int) ((gt l i).root)),true,(!((((((gt l i).piece % 4):Nat):Int)) == (((3:Nat):Int))))⟩:Iv),(aj (gt l i))⟩:U Qd)]),((at_+3)+((gt l i).length % 3)),(gt l i).root,((((((gt l i).piece % 4):Nat):Int)) == (((3:Nat):Int))),(i+1),(aj (gt l i)))
     else
      .go ((out++[(⟨(⟨(ae (at_:Int) root),(ae (at_:Int) root),false,false⟩:Iv),(aj (gt l i))⟩:U Qd)]),((at_+3)+((gt l i).length % 3)),(gt l i).root,((((((gt l i).piece % 4):Nat):Int)) == (((3:Nat):Int))),(i+1),(aj (gt l i)))
    else
     bif ((((((gt l i).point % 4):Nat):Int)) == (((2:Nat):Int))) then
      bif ((((((gt l i).piece % 4):Nat):Int)) != (((0:Nat):Int))) then
       .go (((out++[(⟨(⟨(ae (at_:Int) root),(ae (at_:Int) root),false,false⟩:Iv),before⟩:U Qd)])++[(⟨(⟨(ae (at_:Int) root),(ae (((at_+3)+((gt l i).length % 3):Nat):Int) ((gt l i).root)),true,(!((((((gt l i).piece % 4):Nat):Int)) == (((3:Nat):Int))))⟩:Iv),(aj (gt l i))⟩:U Qd)]),((at_+3)+((gt l i).length % 3)),(gt l i).root,((((((gt l i).piece % 4):Nat):Int)) == (((3:Nat):Int))),(i+1),(aj (gt l i)))
      else
       .go ((out++[(⟨(⟨(ae (at_:Int) root),(ae (at_:Int) root),false,false⟩:Iv),before⟩:U Qd)]),((at_+3)+((gt l i).length % 3)),(gt l i).root,((((((gt l i).piece % 4):Nat):Int)) == (((3:Nat):Int))),(i+1),(aj (gt l i)))
     else
      bif ((((((gt l i).point % 4):Nat):Int)) == (((3:Nat):Int))) then
       bif ((((((gt l i).piece % 4):Nat):Int)) != (((0:Nat):Int))) then
        .go (((out++[(⟨(⟨(ae (at_:Int) root),(ae (at_:Int) root),false,false⟩:Iv),(az (ah (Int.tmod ((gt l i).c0) 4)))⟩:U Qd)])++[(⟨(⟨(ae (at_:Int) root),(ae (((at_+3)+((gt l i).length % 3):Nat):Int) ((gt l i).root)),true,(!((((((gt l i).piece % 4):Nat):Int)) == (((3:Nat):Int))))⟩:Iv),(aj (gt l i))⟩:U Qd)]),((at_+3)+((gt l i).length % 3)),(gt l i).root,((((((gt l i).piece % 4):Nat):Int)) == (((3:Nat):Int))),(i+1),(aj (gt l i)))
       else
        .go ((out++[(⟨(⟨(ae (at_:Int) root),(ae (at_:Int) root),false,false⟩:Iv),(az (ah (Int.tmod ((gt l i).c0) 4)))⟩:U Qd)]),((at_+3)+((gt l i).length % 3)),(gt l i).root,((((((gt l i).piece % 4):Nat):Int)) == (((3:Nat):Int))),(i+1),(aj (gt l i)))
      else
       bif ((((((gt l i).piece % 4):Nat):Int)) != (((0:Nat):Int))) then
        .go ((out++[(⟨(⟨(ae (at_:Int) root),(ae (((at_+3)+((gt l i).length % 3):Nat):Int) ((gt l i).root)),true,(!((((((gt l i).piece % 4):Nat):Int)) == (((3:Nat):Int))))⟩:Iv),(aj (gt l i))⟩:U Qd)]),((at_+3)+((gt l i).length % 3)),(gt l i).root,((((((gt l i).piece % 4):Nat):Int)) == (((3:Nat):Int))),(i+1),(aj (gt l i)))
       else
        .go (out,((at_+3)+((gt l i).length % 3)),(gt l i).root,((((((gt l i).piece % 4):Nat):Int)) == (((3:Nat):Int))),(i+1),(aj (gt l i)))
   else
    bif ((((((gt l i).piece % 4):Nat):Int)) != (((0:Nat):Int))) then
     .go ((out++[(⟨(⟨(ae (at_:Int) root),(ae (((at_+3)+((gt l i).length % 3):Nat):Int) ((gt l i).root)),true,(!((((((gt l i).piece % 4):Nat):Int)) == (((3:Nat):Int))))⟩:Iv),(aj (gt l i))⟩:U Qd)]),((at_+3)+((gt l i).length % 3)),(gt l i).root,((((((gt l i).piece % 4):Nat):Int)) == (((3:Nat):Int))),(i+1),(aj (gt l i)))
    else
     .go (out,((at_+3)+((gt l i).length % 3)),(gt l i).root,((((((gt l i).piece % 4):Nat):Int)) == (((3:Nat):Int))),(i+1),(aj (gt l i)))
 else
  .out (out,at_,root,taken,i,before)
def aM (l:List Stp):(List (U Qd)) :=
 fin (bt (fun s=>cH l s.1 s.2.1 s.2.2.1 s.2.2.2.1 s.2.2.2.2.1 s.2.2.2.2.2) ((8 - 0)+1) ([],0,false,false,0,(⟨(⟨(⟨false,0⟩:GI),(⟨false,0⟩:GI)⟩:GQ),(⟨(⟨false,0⟩:GI),(⟨false,0⟩:GI)⟩:GQ),(⟨(⟨false,0⟩:GI),(⟨false,0⟩:GI)⟩:GQ)⟩:Qd))) (fun s=>fy l s.1 s.2.1 s.2.2.1 s.2.2.2.1 s.2.2.2.2.1 s.2.2.2.2.2) (fun r=>r)
theorem ka (l:List Stp) (lv:Value) (w0:World) (hlv:View w0 lv l):Calls Tryz.prog 27 #[lv] w0 (RetR w0 126 (aM l) (All (gk 30) (aM l)∧(aM l).length≤16)):=by
 refine enter (N:=118) Tryz.func27 rfl rfl ?_; intro ac h
 have hlenl:=hlv.len
 refine gz h <| (xa) fun b1=>(W) ?_; clear h ac; intro ac wo h
 replace h:=h.nilRow (α:=U Qd) 126
 obtain ⟨X1,hX1⟩:∃ X,bt (fun s=>cH l s.1 s.2.1 s.2.2.1 s.2.2.2.1 s.2.2.2.2.1 s.2.2.2.2.2) ((8 - 0)+1) ([],0,false,false,0,oD)=X:=⟨_,rfl⟩
 refine wp_loop_ghost (fun n_ a_ w_=>∃ (out:List (U Qd)) (at_:Nat) (root:Bool) (taken:Bool) (i:Nat) (before:Qd) (outv:Value),((8 - i) < n_)∧(bt (fun s=>cH l s.1 s.2.1 s.2.2.1 s.2.2.2.1 s.2.2.2.2.1 s.2.2.2.2.2) n_ (out,at_,root,taken,i,before)=X1)∧(i≤8)∧(All (gk 30) out)∧(SzD 30 before)∧(at_≤5*i)∧(out.length≤2*i)∧St w0 118 [(0,lv),(3,outv),(4,(iN at_)),(5,(.bool root)),(6,(.bool taken)),(7,(ptr b1 0)),(8,(iN i))] [.row (α:=U Qd) 126 outv out,.blk b1 (cD before) 53] a_ w_) ((8 - 0)+1) ⟨[],0,false,false,0,oD,(.slice none 0 0),og,hX1,og,All.nil,⟨⟨(bJ 0 DC og),(bJ 0 DC og)⟩,⟨(bJ 0 DC og),(bJ 0 DC og)⟩,⟨(bJ 0 DC og),(bJ 0 DC og)⟩⟩,og,og,h.rs⟩ ?_
 clear h ac wo; rintro n1 ac wo ⟨out,at_,root,taken,i,before,outv,hm1,hL1,hi,zout,zbefore,hat,hol,h⟩
 obtain ⟨m1,rfl⟩:∃ m,n1=m+1:=⟨n1 - 1,by omega⟩
 refine gz h <| (ai) ?_ ?_ <;> clear h ac wo <;> intro ac wo h hc1
 ·
  have q:=hc1; try simp at q
  have c2:=ke (gt l i)
  have s2:=Calls.pr (c2 w0)
  have c3:=jv (at_:Int) root og
  have s3:=Calls.pr (c3 w0)
  refine gz h <| (xa) fun b2=>(xk (c2)) <| (xa) fun b3=>(xk (c3)) <| (xa) fun b4=>(W) ?_; clear h ac wo; intro ac wo h
  have c4:=jv (((at_+3)+((gt l i).length % 3):Nat):Int) ((gt l i).root) og
  have s4:=Calls.pr (c4 w0)
  refine gz h <| (xo (hs:=by exact j6 rfl rfl (r:=((((gt l i).length % 3):Nat):Int)) og (by rw [Int.tmod_eq_emod_of_nonneg og]; rfl))) <| (xo (hs:=by exact be Tryz.runUnderlying5 uu3 rfl (r:=((((gt l i).length % 3):Nat):Int)) (by rw [IntKind.wrap_i64]; omega))) <| (xk (c4)) <| (xa) fun b5=>(xo (hs:=by exact bN qf exs rfl (v:=(vV (⟨(ae (at_:Int) root),(ae (((at_+3)+((gt l i).length % 3):Nat):Int) ((gt l i).root)),true,true⟩:Iv))) rfl)) <| (xa) fun b6=>(xo (hs:=by exact j6 rfl rfl (r:=((((gt l i).piece % 4):Nat):Int)) og (by rw [Int.tmod_eq_emod_of_nonneg og]; rfl))) <| (ai) ?_ ?_ <;> clear h ac wo <;> intro ac wo h hc2
  ·
   have q:=hc2; try simp at q
   refine gz h <| (xs 0 (cV (⟨(ae (at_:Int) root),(ae (((at_+3)+((gt l i).length % 3):Nat):Int) ((gt l i).root)),false,true⟩:Iv))) <| (W) ?_; clear h ac wo; intro ac wo h
   refine tr h rfl ?_
   refine gz h <| (xo (hs:=by exact j6 rfl rfl (r:=((((gt l i).piece % 4):Nat):Int)) og (by rw [Int.tmod_eq_emod_of_nonneg og]; rfl))) <| (xs 0 (cV (⟨(ae (at_:Int) root),(ae (((at_+3)+((gt l i).length % 3):Nat):Int) ((gt l i).root)),false,(!((((((gt l i).piece % 4):Nat):Int)) == (((3:Nat):Int))))⟩:Iv))) <| (xo (hs:=by exact j6 rfl rfl (r:=((((gt l i).piece % 4):Nat):Int)) og (by rw [Int.tmod_eq_emod_of_nonneg og]; rfl))) <| (ai) ?_ ?_ <;> clear h ac wo <;> intro ac wo h hc3
   ·
    have q:=hc3; try simp at q
    refine gz h <| (xo (hs:=by exact bN jh exs rfl (v:=(vUD (⟨(⟨(ae (at_:Int) root),(ae (((at_+3)+((gt l i).length % 3):Nat):Int) ((gt l i).root)),false,(!((((((gt l i).piece % 4):Nat):Int)) == (((3:Nat):Int))))⟩:Iv),(aj (gt l i))⟩:U Qd))) rfl)) <| ?_; clear h ac wo; intro ac wo h
    refine nw h (cA (α:=U Qd) (xs:=[.tmp 110]) (vs:=[(vUD (⟨(⟨(ae (at_:Int) root),(ae (((at_+3)+((gt l i).length % 3):Nat):Int) ((gt l i).root)),false,(!((((((gt l i).piece % 4):Nat):Int)) == (((3:Nat):Int))))⟩:Iv),(aj (gt l i))⟩:U Qd))]) [(⟨(⟨(ae (at_:Int) root),(ae (((at_+3)+((gt l i).length % 3):Nat):Int) ((gt l i).root)),false,(!((((((gt l i).piece % 4):Nat):Int)) == (((3:Nat):Int))))⟩:Iv),(aj (gt l i))⟩:U Qd)] slt50 rfl rfl rfl DC) rfl ?_; clear h ac wo; intro sv5 ac wo nnsv5 h
    refine on2 h 6 0 rfl rfl (fe (xs:=out) (ys:=[(⟨(⟨(ae (at_:Int) root),(ae (((at_+3)+((gt l i).length % 3):Nat):Int) ((gt l i).root)),false,(!((((((gt l i).piece % 4):Nat):Int)) == (((3:Nat):Int))))⟩:Iv),(aj (gt l i))⟩:U Qd)]) slt50 (fun w hs=>(row_view hs 0 rfl)) rfl rfl og) rfl ?_; clear h ac wo; intro sv6 ac wo apsv6 h
    refine gz h <| (dr1 (H:=[⟨_,[]⟩,⟨_,[]⟩,⟨_,[]⟩,⟨_,[]⟩,⟨_,[]⟩,⟨_,[]⟩,⟨_,[]⟩,⟨.blk b1 (cD before) 53,[(6,.con (.blk b1 (cD (aj (gt l i))) 53))]⟩]) (hob:=oE)) <| (W) ?_; clear h ac wo; intro ac wo h
    have hg:=bI hL1 pt
    exact aD ⟨m1,og,_,_,_,_,_,_,_,og,hg,og,(All.app zout (All.cons ⟨⟨(cr s3 og),(cr s4 og)⟩,(dh s2 og)⟩ All.nil)),(dh s2 og),og,og,h.re [0,7]⟩
   ·
    have q:=hc3; try simp at q
    refine gz h <| (dr1 (H:=[⟨_,[]⟩,⟨_,[]⟩,⟨_,[]⟩,⟨_,[]⟩,⟨_,[]⟩,⟨_,[]⟩,⟨.blk b1 (cD before) 53,[(6,.con (.blk b1 (cD (aj (gt l i))) 53))]⟩]) (hob:=oE)) <| (W) ?_; clear h ac wo; intro ac wo h
    have hg:=bI hL1 pt
    exact aD ⟨m1,og,_,_,_,_,_,_,_,og,hg,og,zout,(dh s2 og),og,og,h.re [5,6]⟩
  ·
   have q:=hc2; try simp at q
   refine gz h <| (ai) ?_ ?_ <;> clear h ac wo <;> intro ac wo h hc4
   ·
    have q:=hc4; try simp at q
    refine gz h <| (xo (hs:=by exact bN qf exs rfl (v:=(vV (⟨(ae (at_:Int) root),(ae (at_:Int) root),false,false⟩:Iv))) rfl)) <| (xa) fun b7=>(xo (hs:=by exact j6 rfl rfl (r:=((((gt l i).point % 4):Nat):Int)) og (by rw [Int.tmod_eq_emod_of_nonneg og]; rfl))) <| (ai) ?_ ?_ <;> clear h ac wo <;> intro ac wo h hc5
    ·
     have hd5:=eq_of_beq hc5
     refine gz h <| (xo (hs:=by exact bN jh exs rfl (v:=(vUD (⟨(⟨(ae (at_:Int) root),(ae (at_:Int) root),false,false⟩:Iv),(aj (gt l i))⟩:U Qd))) rfl)) <| ?_; clear h ac wo; intro ac wo h
     refine nw h (cA (α:=U Qd) (xs:=[.tmp 71]) (vs:=[(vUD (⟨(⟨(ae (at_:Int) root),(ae (at_:Int) root),false,false⟩:Iv),(aj (gt l i))⟩:U Qd))]) [(⟨(⟨(ae (at_:Int) root),(ae (at_:Int) root),false,false⟩:Iv),(aj (gt l i))⟩:U Qd)] slt50 rfl rfl rfl DC) rfl ?_; clear h ac wo; intro sv7 ac wo nnsv7 h
     refine on2 h 7 0 rfl rfl (fe (xs:=out) (ys:=[(⟨(⟨(ae (at_:Int) root),(ae (at_:Int) root),false,false⟩:Iv),(aj (gt l i))⟩:U Qd)]) slt50 (fun w hs=>(row_view hs 0 rfl)) rfl rfl og) rfl ?_; clear h ac wo; intro sv8 ac wo apsv8 h
     refine gz h <| (xo (hs:=by exact j6 rfl rfl (r:=((((gt l i).piece % 4):Nat):Int)) og (by rw [Int.tmod_eq_emod_of_nonneg og]; rfl))) <| (xs 3 (cV (⟨(ae (at_:Int) root),(ae (((at_+3)+((gt l i).length % 3):Nat):Int) ((gt l i).root)),true,(!((((((gt l i).piece % 4):Nat):Int)) == (((3:Nat):Int))))⟩:Iv))) <| (xo (hs:=by exact j6 rfl rfl (r:=((((gt l i).piece % 4):Nat):Int)) og (by rw [Int.tmod_eq_emod_of_nonneg og]; rfl))) <| (ai) ?_ ?_ <;> clear h ac wo <;> intro ac wo h hc6
     ·
      have q:=hc6; try simp at q
      refine gz h <| (xo (hs:=by exact bN jh exs rfl (v:=(vUD (⟨(⟨(ae (at_:Int) root),(ae (((at_+3)+((gt l i).length % 3):Nat):Int) ((gt l i).root)),true,(!((((((gt l i).piece % 4):Nat):Int)) == (((3:Nat):Int))))⟩:Iv),(aj (gt l i))⟩:U Qd))) rfl)) <| ?_; clear h ac wo; intro ac wo h
      refine nw h (cA (α:=U Qd) (xs:=[.tmp 110]) (vs:=[(vUD (⟨(⟨(ae (at_:Int) root),(ae (((at_+3)+((gt l i).length % 3):Nat):Int) ((gt l i).root)),true,(!((((((gt l i).piece % 4):Nat):Int)) == (((3:Nat):Int))))⟩:Iv),(aj (gt l i))⟩:U Qd))]) [(⟨(⟨(ae (at_:Int) root),(ae (((at_+3)+((gt l i).length % 3):Nat):Int) ((gt l i).root)),true,(!((((((gt l i).piece % 4):Nat):Int)) == (((3:Nat):Int))))⟩:Iv),(aj (gt l i))⟩:U Qd)] slt50 rfl rfl rfl DC) rfl ?_; clear h ac wo; intro sv9 ac wo nnsv9 h
      refine on2 h 1 0 rfl rfl (fe (xs:=(out++[(⟨(⟨(ae (at_:Int) root),(ae (at_:Int) root),false,false⟩:Iv),(aj (gt l i))⟩:U Qd)])) (ys:=[(⟨(⟨(ae (at_:Int) root),(ae (((at_+3)+((gt l i).length % 3):Nat):Int) ((gt l i).root)),true,(!((((((gt l i).piece % 4):Nat):Int)) == (((3:Nat):Int))))⟩:Iv),(aj (gt l i))⟩:U Qd)]) slt50 (fun w hs=>(row_view hs 0 rfl)) rfl rfl og) rfl ?_; clear h ac wo; intro sv10 ac wo apsv10 h
      refine gz h <| (dr1 (H:=[⟨_,[]⟩,⟨_,[]⟩,⟨_,[]⟩,⟨_,[]⟩,⟨_,[]⟩,⟨_,[]⟩,⟨_,[]⟩,⟨_,[]⟩,⟨_,[]⟩,⟨.blk b1 (cD before) 53,[(6,.con (.blk b1 (cD (aj (gt l i))) 53))]⟩]) (hob:=oE)) <| (W) ?_; clear h ac wo; intro ac wo h
      have hg:=bI hL1 pt
      exact aD ⟨m1,og,_,_,_,_,_,_,_,og,hg,og,(All.app (All.app zout (All.cons ⟨⟨(cr s3 og),(cr s3 og)⟩,(dh s2 og)⟩ All.nil)) (All.cons ⟨⟨(cr s3 og),(cr s4 og)⟩,(dh s2 og)⟩ All.nil)),(dh s2 og),og,og,h.re [0,9]⟩
     ·
      have q:=hc6; try simp at q
      refine gz h <| (dr1 (H:=[⟨_,[]⟩,⟨_,[]⟩,⟨_,[]⟩,⟨_,[]⟩,⟨_,[]⟩,⟨_,[]⟩,⟨_,[]⟩,⟨_,[]⟩,⟨.blk b1 (cD before) 53,[(6,.con (.blk b1 (cD (aj (gt l i))) 53))]⟩]) (hob:=oE)) <| (W) ?_; clear h ac wo; intro ac wo h
      have hg:=bI hL1 pt
      exact aD ⟨m1,og,_,_,_,_,_,_,_,og,hg,og,(All.app zout (All.cons ⟨⟨(cr s3 og),(cr s3 og)⟩,(dh s2 og)⟩ All.nil)),(dh s2 og),og,og,h.re [0,8]⟩
    ·
     have hd5:=ne_of_beq_false hc5
     refine gz h <| (ai) ?_ ?_ <;> clear h ac wo <;> intro ac wo h hc7
     ·
      have hd7:=eq_of_beq hc7
      refine gz h <| (xo (hs:=by exact bN jh exs rfl (v:=(vUD (⟨(⟨(ae (at_:Int) root),(ae (at_:Int) root),false,false⟩:Iv),before⟩:U Qd))) rfl)) <| ?_; clear h ac wo; intro ac wo h
      refine nw h (cA (α:=U Qd) (xs:=[.tmp 79]) (vs:=[(vUD (⟨(⟨(ae (at_:Int) root),(ae (at_:Int) root),false,false⟩:Iv),before⟩:U Qd))]) [(⟨(⟨(ae (at_:Int) root),(ae (at_:Int) root),false,false⟩:Iv),before⟩:U Qd)] slt50 rfl rfl rfl DC) rfl ?_; clear h ac wo; intro sv11 ac wo nnsv11 h
      refine on2 h 7 0 rfl rfl (fe (xs:=out) (ys:=[(⟨(⟨(ae (at_:Int) root),(ae (at_:Int) root),false,false⟩:Iv),before⟩:U Qd)]) slt50 (fun w hs=>(row_view hs 0 rfl)) rfl rfl og) rfl ?_; clear h ac wo; intro sv12 ac wo apsv12 h
      refine gz h <| (xo (hs:=by exact j6 rfl rfl (r:=((((gt l i).piece % 4):Nat):Int)) og (by rw [Int.tmod_eq_emod_of_nonneg og]; rfl))) <| (xs 3 (cV (⟨(ae (at_:Int) root),(ae (((at_+3)+((gt l i).length % 3):Nat):Int) ((gt l i).root)),true,(!((((((gt l i).piece % 4):Nat):Int)) == (((3:Nat):Int))))⟩:Iv))) <| (xo (hs:=by exact j6 rfl rfl (r:=((((gt l i).piece % 4):Nat):Int)) og (by rw [Int.tmod_eq_emod_of_nonneg og]; rfl))) <| (ai) ?_ ?_ <;> clear h ac wo <;> intro ac wo h hc8
      ·
       have q:=hc8; try simp at q
       refine gz h <| (xo (hs:=by exact bN jh exs rfl (v:=(vUD (⟨(⟨(ae (at_:Int) root),(ae (((at_+3)+((gt l i).length % 3):Nat):Int) ((gt l i).root)),true,(!((((((gt l i).piece % 4):Nat):Int)) == (((3:Nat):Int))))⟩:Iv),(aj (gt l i))⟩:U Qd))) rfl)) <| ?_; clear h ac wo; intro ac wo h
       refine nw h (cA (α:=U Qd) (xs:=[.tmp 110]) (vs:=[(vUD (⟨(⟨(ae (at_:Int) root),(ae (((at_+3)+((gt l i).length % 3):Nat):Int) ((gt l i).root)),true,(!((((((gt l i).piece % 4):Nat):Int)) == (((3:Nat):Int))))⟩:Iv),(aj (gt l i))⟩:U Qd))]) [(⟨(⟨(ae (at_:Int) root),(ae (((at_+3)+((gt l i).length % 3):Nat):Int) ((gt l i).root)),true,(!((((((gt l i).piece % 4):Nat):Int)) == (((3:Nat):Int))))⟩:Iv),(aj (gt l i))⟩:U Qd)] slt50 rfl rfl rfl DC) rfl ?_; clear h ac wo; intro sv13 ac wo nnsv13 h
       refine on2 h 1 0 rfl rfl (fe (xs:=(out++[(⟨(⟨(ae (at_:Int) root),(ae (at_:Int) root),false,false⟩:Iv),before⟩:U Qd)])) (ys:=[(⟨(⟨(ae (at_:Int) root),(ae (((at_+3)+((gt l i).length % 3):Nat):Int) ((gt l i).root)),true,(!((((((gt l i).piece % 4):Nat):Int)) == (((3:Nat):Int))))⟩:Iv),(aj (gt l i))⟩:U Qd)]) slt50 (fun w hs=>(row_view hs 0 rfl)) rfl rfl og) rfl ?_; clear h ac wo; intro sv14 ac wo apsv14 h
       refine gz h <| (dr1 (H:=[⟨_,[]⟩,⟨_,[]⟩,⟨_,[]⟩,⟨_,[]⟩,⟨_,[]⟩,⟨_,[]⟩,⟨_,[]⟩,⟨_,[]⟩,⟨_,[]⟩,⟨.blk b1 (cD before) 53,[(6,.con (.blk b1 (cD (aj (gt l i))) 53))]⟩]) (hob:=oE)) <| (W) ?_; clear h ac wo; intro ac wo h
       have hg:=bI hL1 pt
       exact aD ⟨m1,og,_,_,_,_,_,_,_,og,hg,og,(All.app (All.app zout (All.cons ⟨⟨(cr s3 og),(cr s3 og)⟩,zbefore⟩ All.nil)) (All.cons ⟨⟨(cr s3 og),(cr s4 og)⟩,(dh s2 og)⟩ All.nil)),(dh s2 og),og,og,h.re [0,9]⟩
      ·
       have q:=hc8; try simp at q
       refine gz h <| (dr1 (H:=[⟨_,[]⟩,⟨_,[]⟩,⟨_,[]⟩,⟨_,[]⟩,⟨_,[]⟩,⟨_,[]⟩,⟨_,[]⟩,⟨_,[]⟩,⟨.blk b1 (cD before) 53,[(6,.con (.blk b1 (cD (aj (gt l i))) 53))]⟩]) (hob:=oE)) <| (W) ?_; clear h ac wo; intro ac wo h
       have hg:=bI hL1 pt
       exact aD ⟨m1,og,_,_,_,_,_,_,_,og,hg,og,(All.app zout (All.cons ⟨⟨(cr s3 og),(cr s3 og)⟩,zbefore⟩ All.nil)),(dh s2 og),og,og,h.re [0,8]⟩
     ·
      have hd7:=ne_of_beq_false hc7
      refine gz h <| (ai) ?_ ?_ <;> clear h ac wo <;> intro ac wo h hc9
      ·
       have hd9:=eq_of_beq hc9
       have t0:=tK ((gt l i).c0) 4 DC
       have c15:=bR (Int.tmod ((gt l i).c0) 4) 40 og  og
       have s15:=au (c15 w0)
       have s16:=au ((iz (ah (Int.tmod ((gt l i).c0) 4)) 40 og s15) w0)
       replace h:=h.emps 1
       refine im mixed [⟨.det outv,[]⟩,⟨.det (vV (⟨(ae (at_:Int) root),(ae (at_:Int) root),false,false⟩:Iv)),[0]⟩,⟨.det (ptr b2 4),[]⟩,⟨.det (ptr b2 4),[]⟩,⟨.det (.int .i8 ((gt l i).c0)),[5]⟩,⟨.det (.int .i8 (Int.tmod ((gt l i).c0) 4)),[]⟩,⟨.det (.int .i64 (Int.tmod ((gt l i).c0) 4)),[]⟩,⟨.det (vQ (ah (Int.tmod ((gt l i).c0) 4))),[]⟩,⟨.det (vD (az (ah (Int.tmod ((gt l i).c0) 4)))),[]⟩,⟨.det (vUD (⟨(⟨(ae (at_:Int) root),(ae (at_:Int) root),false,false⟩:Iv),(az (ah (Int.tmod ((gt l i).c0) 4)))⟩:U Qd)),[]⟩,⟨.nd (.one 10 fun v=>NN v 1),[8]⟩,⟨.nd (.con True),[6,8]⟩,⟨.nd (.two 12 11 fun a b=>a=b),[]⟩] [⟨.blk b7 (cV (⟨(ae (at_:Int) root),(ae (at_:Int) root),false,false⟩:Iv)) 86,[]⟩,⟨.blk b6 (cV (⟨(ae (at_:Int) root),(ae (((at_+3)+((gt l i).length % 3):Nat):Int) ((gt l i).root)),true,true⟩:Iv)) 86,[]⟩,⟨.blk b5 (cR (ae (((at_+3)+((gt l i).length % 3):Nat):Int) ((gt l i).root))) 71,[]⟩,⟨.blk b4 (cR (ae (at_:Int) root)) 71,[]⟩,⟨.blk b3 (cD (aj (gt l i))) 53,[]⟩,⟨.blk b2 (cS (gt l i)) 169,[]⟩,⟨.row (α:=U Qd) 126 outv out,[(11,.one 11 fun v=>.row (α:=U Qd) 126 v (out++[(⟨(⟨(ae (at_:Int) root),(ae (at_:Int) root),false,false⟩:Iv),(az (ah (Int.tmod ((gt l i).c0) 4)))⟩:U Qd)]))]⟩,⟨.blk b1 (cD before) 53,[]⟩,⟨.emp,[(10,.one 10 fun v=>.row (α:=U Qd) 126 v ([(⟨(⟨(ae (at_:Int) root),(ae (at_:Int) root),false,false⟩:Iv),(az (ah (Int.tmod ((gt l i).c0) 4)))⟩:U Qd)]))]⟩] h rfl (by kernel_rfl) ⟨?_,?_,?_,?_,?_,?_,?_,?_,?_,?_,?_,?_,?_,trivial⟩ ?_
       ·intro ξ hφ; exact bg (ap rfl)
       ·intro ξ hφ; exact js [.blk b7 (cV (⟨(ae (at_:Int) root),(ae (at_:Int) root),false,false⟩:Iv)) 86] rfl rfl (jr Tryz.isAgg86 Tryz.sizeOf86 rfl rfl rfl (v:=(vV (⟨(ae (at_:Int) root),(ae (at_:Int) root),false,false⟩:Iv))) rfl)
       ·intro ξ hφ; exact bg (fa Tryz.runUnderlying169 rfl Tryz.sizeOf167 rfl rfl rfl (k':=4))
       ·intro ξ hφ; exact bg (vY (i:=0) Tryz.runUnderlying167 Tryz.sizeOf166 rfl rfl DC)
       ·intro ξ hφ; exact js [.blk b2 (cS (gt l i)) 169] rfl rfl (jr Tryz.isAgg166 Tryz.sizeOf166 rfl rfl rfl (v:=(.int .i8 ((gt l i).c0))) rfl)
       ·intro ξ hφ; exact bg (j6 rfl rfl (r:=(Int.tmod ((gt l i).c0) 4)) DC rfl)
       ·intro ξ hφ; exact bg (be Tryz.runUnderlying166 uu3 rfl (r:=(Int.tmod ((gt l i).c0) 4)) (by rw [IntKind.wrap_i64]; omega))
       ·intro ξ hφ; exact kD (fB (ck Tryz.call85 rfl) (kk c15))
       ·intro ξ hφ; exact kD (fB (ck Tryz.call113 rfl) (kk (iz (ah (Int.tmod ((gt l i).c0) 4)) 40 og s15)))
       ·intro ξ hφ; exact bg (bN jh rfl rfl (v:=(vUD (⟨(⟨(ae (at_:Int) root),(ae (at_:Int) root),false,false⟩:Iv),(az (ah (Int.tmod ((gt l i).c0) 4)))⟩:U Qd))) rfl)
       ·intro ξ hφ; exact mo (ψ:=fun v=>NN v 1) (B:=fun v=>[.row (α:=U Qd) 126 v ([(⟨(⟨(ae (at_:Int) root),(ae (at_:Int) root),false,false⟩:Iv),(az (ah (Int.tmod ((gt l i).c0) 4)))⟩:U Qd)])]) [.emp] rfl (fun v _=>by simp only [dO,bA] <;> rfl) (fun v hv=>by simpa [DF.one,bA] using hv) (jX (cA (α:=U Qd) (xs:=[.tmp 93]) (vs:=[(vUD (⟨(⟨(ae (at_:Int) root),(ae (at_:Int) root),false,false⟩:Iv),(az (ah (Int.tmod ((gt l i).c0) 4)))⟩:U Qd))]) [(⟨(⟨(ae (at_:Int) root),(ae (at_:Int) root),false,false⟩:Iv),(az (ah (Int.tmod ((gt l i).c0) 4)))⟩:U Qd)] slt50 rfl rfl rfl DC))
       ·intro ξ hφ; exact mo (B:=fun v=>[.row (α:=U Qd) 126 v (out++[(⟨(⟨(ae (at_:Int) root),(ae (at_:Int) root),false,false⟩:Iv),(az (ah (Int.tmod ((gt l i).c0) 4)))⟩:U Qd)]),.row (α:=U Qd) 126 (ξ 10) ([(⟨(⟨(ae (at_:Int) root),(ae (at_:Int) root),false,false⟩:Iv),(az (ah (Int.tmod ((gt l i).c0) 4)))⟩:U Qd)])]) [.row (α:=U Qd) 126 outv out,.row (α:=U Qd) 126 (ξ 10) ([(⟨(⟨(ae (at_:Int) root),(ae (at_:Int) root),false,false⟩:Iv),(az (ah (Int.tmod ((gt l i).c0) 4)))⟩:U Qd)])] rfl (fun v _=>by simp only [dO,bA] <;> rfl) (fun _ _=>trivial) (fe (xs:=out) (ys:=[(⟨(⟨(ae (at_:Int) root),(ae (at_:Int) root),false,false⟩:Iv),(az (ah (Int.tmod ((gt l i).c0) 4)))⟩:U Qd)]) slt50 (fun w hs=>(row_view hs 0 rfl)) rfl rfl og)
       ·intro ξ hφ; exact ob_n (φ:=.two 12 11 fun a b=>a=b) (v:=ξ 11) [] rfl rfl (by show upd ξ 12 (ξ 11) 12=upd ξ 12 (ξ 11) 11; rw [bA,lP DC]) (ay rfl)
       clear h ac wo; intro ξ ac wo hφ h
       replace h:St w0 118 [(0,lv),(3,ξ 12),(7,(ptr b1 0)),(8,(iN i)),(9,(ptr b2 0)),(10,(ptr b3 0)),(12,(iN ((at_+3)+((gt l i).length % 3)))),(14,(ptr b6 0))] [.blk b7 (cV (⟨(ae (at_:Int) root),(ae (at_:Int) root),false,false⟩:Iv)) 86,.blk b6 (cV (⟨(ae (at_:Int) root),(ae (((at_+3)+((gt l i).length % 3):Nat):Int) ((gt l i).root)),true,true⟩:Iv)) 86,.blk b5 (cR (ae (((at_+3)+((gt l i).length % 3):Nat):Int) ((gt l i).root))) 71,.blk b4 (cR (ae (at_:Int) root)) 71,.blk b3 (cD (aj (gt l i))) 53,.blk b2 (cS (gt l i)) 169,.row (α:=U Qd) 126 (ξ 11) (out++[(⟨(⟨(ae (at_:Int) root),(ae (at_:Int) root),false,false⟩:Iv),(az (ah (Int.tmod ((gt l i).c0) 4)))⟩:U Qd)]),.blk b1 (cD before) 53] ac wo:=(h.pick [0,1,2,3,4,5,6,7] DC).sub ⟨rfl,rfl,rfl,rfl,rfl,rfl,rfl,rfl,trivial⟩
       rw [show ξ 12=ξ 11 from hφ 12] at h
       generalize hsv11:ξ 11=sv17 at h; clear hsv11
       clear hφ ξ
       refine gz h <| (xo (hs:=by exact j6 rfl rfl (r:=((((gt l i).piece % 4):Nat):Int)) og (by rw [Int.tmod_eq_emod_of_nonneg og]; rfl))) <| (xs 1 (cV (⟨(ae (at_:Int) root),(ae (((at_+3)+((gt l i).length % 3):Nat):Int) ((gt l i).root)),true,(!((((((gt l i).piece % 4):Nat):Int)) == (((3:Nat):Int))))⟩:Iv))) <| (xo (hs:=by exact j6 rfl rfl (r:=((((gt l i).piece % 4):Nat):Int)) og (by rw [Int.tmod_eq_emod_of_nonneg og]; rfl))) <| (ai) ?_ ?_ <;> clear h ac wo <;> intro ac wo h hc10
       ·
        have q:=hc10; try simp at q
        refine gz h <| (xo (hs:=by exact bN jh exs rfl (v:=(vUD (⟨(⟨(ae (at_:Int) root),(ae (((at_+3)+((gt l i).length % 3):Nat):Int) ((gt l i).root)),true,(!((((((gt l i).piece % 4):Nat):Int)) == (((3:Nat):Int))))⟩:Iv),(aj (gt l i))⟩:U Qd))) rfl)) <| ?_; clear h ac wo; intro ac wo h
        refine nw h (cA (α:=U Qd) (xs:=[.tmp 110]) (vs:=[(vUD (⟨(⟨(ae (at_:Int) root),(ae (((at_+3)+((gt l i).length % 3):Nat):Int) ((gt l i).root)),true,(!((((((gt l i).piece % 4):Nat):Int)) == (((3:Nat):Int))))⟩:Iv),(aj (gt l i))⟩:U Qd))]) [(⟨(⟨(ae (at_:Int) root),(ae (((at_+3)+((gt l i).length % 3):Nat):Int) ((gt l i).root)),true,(!((((((gt l i).piece % 4):Nat):Int)) == (((3:Nat):Int))))⟩:Iv),(aj (gt l i))⟩:U Qd)] slt50 rfl rfl rfl DC) rfl ?_; clear h ac wo; intro sv18 ac wo nnsv18 h
        refine on2 h 7 0 rfl rfl (fe (xs:=(out++[(⟨(⟨(ae (at_:Int) root),(ae (at_:Int) root),false,false⟩:Iv),(az (ah (Int.tmod ((gt l i).c0) 4)))⟩:U Qd)])) (ys:=[(⟨(⟨(ae (at_:Int) root),(ae (((at_+3)+((gt l i).length % 3):Nat):Int) ((gt l i).root)),true,(!((((((gt l i).piece % 4):Nat):Int)) == (((3:Nat):Int))))⟩:Iv),(aj (gt l i))⟩:U Qd)]) slt50 (fun w hs=>(row_view hs 0 rfl)) rfl rfl og) rfl ?_; clear h ac wo; intro sv19 ac wo apsv19 h
        refine gz h <| (dr1 (H:=[⟨_,[]⟩,⟨_,[]⟩,⟨_,[]⟩,⟨_,[]⟩,⟨_,[]⟩,⟨_,[]⟩,⟨_,[]⟩,⟨_,[]⟩,⟨.blk b1 (cD before) 53,[(6,.con (.blk b1 (cD (aj (gt l i))) 53))]⟩]) (hob:=oE)) <| (W) ?_; clear h ac wo; intro ac wo h
        have hg:=bI hL1 pt
        exact aD ⟨m1,og,_,_,_,_,_,_,_,og,hg,og,(All.app (All.app zout (All.cons ⟨⟨(cr s3 og),(cr s3 og)⟩,(dh s16 og)⟩ All.nil)) (All.cons ⟨⟨(cr s3 og),(cr s4 og)⟩,(dh s2 og)⟩ All.nil)),(dh s2 og),og,og,h.re [0,8]⟩
       ·
        have q:=hc10; try simp at q
        refine gz h <| (dr1 (H:=[⟨_,[]⟩,⟨_,[]⟩,⟨_,[]⟩,⟨_,[]⟩,⟨_,[]⟩,⟨_,[]⟩,⟨_,[]⟩,⟨.blk b1 (cD before) 53,[(6,.con (.blk b1 (cD (aj (gt l i))) 53))]⟩]) (hob:=oE)) <| (W) ?_; clear h ac wo; intro ac wo h
        have hg:=bI hL1 pt
        exact aD ⟨m1,og,_,_,_,_,_,_,_,og,hg,og,(All.app zout (All.cons ⟨⟨(cr s3 og),(cr s3 og)⟩,(dh s16 og)⟩ All.nil)),(dh s2 og),og,og,h.re [6,7]⟩
      ·
       have hd9:=ne_of_beq_false hc9
       refine gz h <| (xo (hs:=by exact j6 rfl rfl (r:=((((gt l i).piece % 4):Nat):Int)) og (by rw [Int.tmod_eq_emod_of_nonneg og]; rfl))) <| (xs 1 (cV (⟨(ae (at_:Int) root),(ae (((at_+3)+((gt l i).length % 3):Nat):Int) ((gt l i).root)),true,(!((((((gt l i).piece % 4):Nat):Int)) == (((3:Nat):Int))))⟩:Iv))) <| (xo (hs:=by exact j6 rfl rfl (r:=((((gt l i).piece % 4):Nat):Int)) og (by rw [Int.tmod_eq_emod_of_nonneg og]; rfl))) <| (ai) ?_ ?_ <;> clear h ac wo <;> intro ac wo h hc11
       ·
        have q:=hc11; try simp at q
        refine gz h <| (xo (hs:=by exact bN jh exs rfl (v:=(vUD (⟨(⟨(ae (at_:Int) root),(ae (((at_+3)+((gt l i).length % 3):Nat):Int) ((gt l i).root)),true,(!((((((gt l i).piece % 4):Nat):Int)) == (((3:Nat):Int))))⟩:Iv),(aj (gt l i))⟩:U Qd))) rfl)) <| ?_; clear h ac wo; intro ac wo h
        refine nw h (cA (α:=U Qd) (xs:=[.tmp 110]) (vs:=[(vUD (⟨(⟨(ae (at_:Int) root),(ae (((at_+3)+((gt l i).length % 3):Nat):Int) ((gt l i).root)),true,(!((((((gt l i).piece % 4):Nat):Int)) == (((3:Nat):Int))))⟩:Iv),(aj (gt l i))⟩:U Qd))]) [(⟨(⟨(ae (at_:Int) root),(ae (((at_+3)+((gt l i).length % 3):Nat):Int) ((gt l i).root)),true,(!((((((gt l i).piece % 4):Nat):Int)) == (((3:Nat):Int))))⟩:Iv),(aj (gt l i))⟩:U Qd)] slt50 rfl rfl rfl DC) rfl ?_; clear h ac wo; intro sv20 ac wo nnsv20 h
        refine on2 h 7 0 rfl rfl (fe (xs:=out) (ys:=[(⟨(⟨(ae (at_:Int) root),(ae (((at_+3)+((gt l i).length % 3):Nat):Int) ((gt l i).root)),true,(!((((((gt l i).piece % 4):Nat):Int)) == (((3:Nat):Int))))⟩:Iv),(aj (gt l i))⟩:U Qd)]) slt50 (fun w hs=>(row_view hs 0 rfl)) rfl rfl og) rfl ?_; clear h ac wo; intro sv21 ac wo apsv21 h
        refine gz h <| (dr1 (H:=[⟨_,[]⟩,⟨_,[]⟩,⟨_,[]⟩,⟨_,[]⟩,⟨_,[]⟩,⟨_,[]⟩,⟨_,[]⟩,⟨_,[]⟩,⟨.blk b1 (cD before) 53,[(6,.con (.blk b1 (cD (aj (gt l i))) 53))]⟩]) (hob:=oE)) <| (W) ?_; clear h ac wo; intro ac wo h
        have hg:=bI hL1 pt
        exact aD ⟨m1,og,_,_,_,_,_,_,_,og,hg,og,(All.app zout (All.cons ⟨⟨(cr s3 og),(cr s4 og)⟩,(dh s2 og)⟩ All.nil)),(dh s2 og),og,og,h.re [0,8]⟩
       ·
        have q:=hc11; try simp at q
        refine gz h <| (dr1 (H:=[⟨_,[]⟩,⟨_,[]⟩,⟨_,[]⟩,⟨_,[]⟩,⟨_,[]⟩,⟨_,[]⟩,⟨_,[]⟩,⟨.blk b1 (cD before) 53,[(6,.con (.blk b1 (cD (aj (gt l i))) 53))]⟩]) (hob:=oE)) <| (W) ?_; clear h ac wo; intro ac wo h
        have hg:=bI hL1 pt
        exact aD ⟨m1,og,_,_,_,_,_,_,_,og,hg,og,zout,(dh s2 og),og,og,h.re [6,7]⟩
   ·
    have q:=hc4; try simp at q
    refine gz h <| (xo (hs:=by exact j6 rfl rfl (r:=((((gt l i).piece % 4):Nat):Int)) og (by rw [Int.tmod_eq_emod_of_nonneg og]; rfl))) <| (xs 0 (cV (⟨(ae (at_:Int) root),(ae (((at_+3)+((gt l i).length % 3):Nat):Int) ((gt l i).root)),true,(!((((((gt l i).piece % 4):Nat):Int)) == (((3:Nat):Int))))⟩:Iv))) <| (xo (hs:=by exact j6 rfl rfl (r:=((((gt l i).piece % 4):Nat):Int)) og (by rw [Int.tmod_eq_emod_of_nonneg og]; rfl))) <| (ai) ?_ ?_ <;> clear h ac wo <;> intro ac wo h hc12
    ·
     have q:=hc12; try simp at q
     refine gz h <| (xo (hs:=by exact bN jh exs rfl (v:=(vUD (⟨(⟨(ae (at_:Int) root),(ae (((at_+3)+((gt l i).length % 3):Nat):Int) ((gt l i).root)),true,(!((((((gt l i).piece % 4):Nat):Int)) == (((3:Nat):Int))))⟩:Iv),(aj (gt l i))⟩:U Qd))) rfl)) <| ?_; clear h ac wo; intro ac wo h
     refine nw h (cA (α:=U Qd) (xs:=[.tmp 110]) (vs:=[(vUD (⟨(⟨(ae (at_:Int) root),(ae (((at_+3)+((gt l i).length % 3):Nat):Int) ((gt l i).root)),true,(!((((((gt l i).piece % 4):Nat):Int)) == (((3:Nat):Int))))⟩:Iv),(aj (gt l i))⟩:U Qd))]) [(⟨(⟨(ae (at_:Int) root),(ae (((at_+3)+((gt l i).length % 3):Nat):Int) ((gt l i).root)),true,(!((((((gt l i).piece % 4):Nat):Int)) == (((3:Nat):Int))))⟩:Iv),(aj (gt l i))⟩:U Qd)] slt50 rfl rfl rfl DC) rfl ?_; clear h ac wo; intro sv22 ac wo nnsv22 h
     refine on2 h 6 0 rfl rfl (fe (xs:=out) (ys:=[(⟨(⟨(ae (at_:Int) root),(ae (((at_+3)+((gt l i).length % 3):Nat):Int) ((gt l i).root)),true,(!((((((gt l i).piece % 4):Nat):Int)) == (((3:Nat):Int))))⟩:Iv),(aj (gt l i))⟩:U Qd)]) slt50 (fun w hs=>(row_view hs 0 rfl)) rfl rfl og) rfl ?_; clear h ac wo; intro sv23 ac wo apsv23 h
     refine gz h <| (dr1 (H:=[⟨_,[]⟩,⟨_,[]⟩,⟨_,[]⟩,⟨_,[]⟩,⟨_,[]⟩,⟨_,[]⟩,⟨_,[]⟩,⟨.blk b1 (cD before) 53,[(6,.con (.blk b1 (cD (aj (gt l i))) 53))]⟩]) (hob:=oE)) <| (W) ?_; clear h ac wo; intro ac wo h
     have hg:=bI hL1 pt
     exact aD ⟨m1,og,_,_,_,_,_,_,_,og,hg,og,(All.app zout (All.cons ⟨⟨(cr s3 og),(cr s4 og)⟩,(dh s2 og)⟩ All.nil)),(dh s2 og),og,og,h.re [0,7]⟩
    ·
     have q:=hc12; try simp at q
     refine gz h <| (dr1 (H:=[⟨_,[]⟩,⟨_,[]⟩,⟨_,[]⟩,⟨_,[]⟩,⟨_,[]⟩,⟨_,[]⟩,⟨.blk b1 (cD before) 53,[(6,.con (.blk b1 (cD (aj (gt l i))) 53))]⟩]) (hob:=oE)) <| (W) ?_; clear h ac wo; intro ac wo h
     have hg:=bI hL1 pt
     exact aD ⟨m1,og,_,_,_,_,_,_,_,og,hg,og,zout,(dh s2 og),og,og,h.re [5,6]⟩
 ·
  have q:=hc1; try simp at q
  have hx1:=cG hL1 pt
  have hd:aM l=out:=pt
  exact (rx h) fun _ _ h=>(by rw [hd]; exact h.retR 0 rfl ⟨zout,og⟩)
attribute [irreducible] aM
end Go.Sx
