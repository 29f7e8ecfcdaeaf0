import Derived.Test.YtbenbmdkhcfcfaaGreatDoorS0
set_option linter.unusedVariables false
set_option linter.unusedSimpArgs false
open Go.Proofs.Tryz renaming isAgg71 → aa71, sizeOf71 → zz71, isAgg4 → aa4, underlying4 → nn4, call85 → cc85, zeroValue53 → vv53, sizeOf53 → zz53, call108 → cc108, zeroValue86 → vv86, sizeOf86 → zz86, runUnderlying86 → uu86, sizeOf4 → zz4, isAgg86 → aa86, isAgg53 → aa53, runUnderlying50 → uu50, sizeOf126 → zz126, runUnderlying126 → uu126
namespace Go.Sx
open Go Go.RowKit Go.Proofs
set_option maxRecDepth 100000
set_option maxHeartbeats 40000000
attribute [local irreducible] Code.wp wpList Rd gW ObS Ent
attribute [local irreducible] an bB ah aO az c8
theorem eqi86:EqIn Tryz.prog 5 86 vV:=eqS (c:=cV) (fun _=>rfl) Tryz.underlying86 Tryz.stoodInHeld86 fun d x y w hd=>by
 refine Eq.trans (eqF DC (eV aa71 zz71 (v:=vR (x.lo)) rfl w) (eV aa71 zz71 (v:=vR (y.lo)) rfl w) (yj d _ _ w og) (eqF DC (eV aa71 zz71 (v:=vR (x.hi)) rfl w) (eV aa71 zz71 (v:=vR (y.hi)) rfl w) (yj d _ _ w og) (eqF DC (ip aa4 rfl w) (ip aa4 rfl w) (eqB nn4 d og _ _ w) (eqF DC (ip aa4 rfl w) (ip aa4 rfl w) (eqB nn4 d og _ _ w) eqF0)))) ?_
 congr 1
 rw [decide_eq_decide]
 cases x; cases y; simp
theorem eqp86:EqP Tryz.prog 86 vV:=EqIn.p (k:=5) rfl (c:=fun x=>(cV x).toArray) (fun _=>rfl) Tryz.eqGuardType86 eqi86
instance zi64:Ep Tryz.prog 86 Iv inferInstance vV:=⟨eqp86⟩
def iD :Bool :=
 ((((((((bn ([(⟨(aW 1 3),(bm (ah 2) (ah (-1)))⟩:U Qd),(⟨(⟨(aW 0 1).lo,(aW 0 1).hi,(aW 0 1).openLo,true⟩:Iv),(bm (⟨(⟨false,0⟩:GI),(⟨false,0⟩:GI)⟩:GQ) (ah 1))⟩:U Qd)])).2 == 0) && (((((bn ([(⟨(aW 1 3),(bm (ah 2) (ah (-1)))⟩:U Qd),(⟨(⟨(aW 0 1).lo,(aW 0 1).hi,(aW 0 1).openLo,true⟩:Iv),(bm (⟨(⟨false,0⟩:GI),(⟨false,0⟩:GI)⟩:GQ) (ah 1))⟩:U Qd)])).1.length:Nat):Int)) == (((2:Nat):Int)))) && (decide ((gt (bn ([(⟨(aW 1 3),(bm (ah 2) (ah (-1)))⟩:U Qd),(⟨(⟨(aW 0 1).lo,(aW 0 1).hi,(aW 0 1).openLo,true⟩:Iv),(bm (⟨(⟨false,0⟩:GI),(⟨false,0⟩:GI)⟩:GQ) (ah 1))⟩:U Qd)])).1 0).iv=(aW 0 1)))) && (decide ((gt (bn ([(⟨(aW 1 3),(bm (ah 2) (ah (-1)))⟩:U Qd),(⟨(⟨(aW 0 1).lo,(aW 0 1).hi,(aW 0 1).openLo,true⟩:Iv),(bm (⟨(⟨false,0⟩:GI),(⟨false,0⟩:GI)⟩:GQ) (ah 1))⟩:U Qd)])).1 0).f=(bm (⟨(⟨false,0⟩:GI),(⟨false,0⟩:GI)⟩:GQ) (ah 1))))) && ((gt (bn ([(⟨(aW 1 3),(bm (ah 2) (ah (-1)))⟩:U Qd),(⟨(⟨(aW 0 1).lo,(aW 0 1).hi,(aW 0 1).openLo,true⟩:Iv),(bm (⟨(⟨false,0⟩:GI),(⟨false,0⟩:GI)⟩:GQ) (ah 1))⟩:U Qd)])).1 1).iv).openLo) && (decide ((gt (bn ([(⟨(aW 1 3),(bm (ah 2) (ah (-1)))⟩:U Qd),(⟨(⟨(aW 0 1).lo,(aW 0 1).hi,(aW 0 1).openLo,true⟩:Iv),(bm (⟨(⟨false,0⟩:GI),(⟨false,0⟩:GI)⟩:GQ) (ah 1))⟩:U Qd)])).1 1).f=(bm (ah 2) (ah (-1)))))) && (!(decide ((bm (⟨(⟨false,0⟩:GI),(⟨false,0⟩:GI)⟩:GQ) (ah 1))=(bm (ah 2) (ah (-1)))))))
theorem mW  (w0:World):Calls Tryz.prog 25 #[] w0 (RetP w0 (.bool iD) (True)):=by
 refine enter (N:=72) Tryz.func25 rfl rfl ?_; intro ac h
 have c1:=bR 1 40 og  og
 have s1:=au (c1 w0)
 have c2:=g7 oQ (ah 1) 40 og ⟨(bJ 0 DC og),(bJ 0 DC og)⟩ s1
 have s2:=au (c2 w0)
 refine pm fun K1 hK1=>?_
 refine rd0 h (ay rfl) rfl <| gn hK1 <| gr fun K2 hK2=>g0 (bN qg rfl rfl (v:=(vQ oQ)) rfl) rfl <| gc (ck cc85 rfl) (kk c1) rfl <| gc (ck Tryz.call107 rfl) (kk c2) rfl ?_; clear h ac; intro ac wo h
 obtain ⟨N1,hN1⟩:∃ q_,(bm oQ (ah 1))=q_:=⟨_,rfl⟩
 try rw [hN1] at s2
 try rw [hN1] at h
 have c3:=bR 2 40 og  og
 have s3:=au (c3 w0)
 have c4:=bR (-1) 40 og  og
 have s4:=au (c4 w0)
 have c5:=g7 (ah 2) (ah (-1)) 40 og s3 s4
 have s5:=au (c5 w0)
 refine wr h (ck cc85 rfl) (kk c3) rfl <| gc (ck cc85 rfl) (kk c4) rfl <| gc (ck Tryz.call107 rfl) (kk c5) rfl ?_; clear h ac wo; intro ac wo h
 obtain ⟨N2,hN2⟩:∃ q_,(bm (ah 2) (ah (-1)))=q_:=⟨_,rfl⟩
 try rw [hN2] at s5
 try rw [hN2] at h
 have c6:=f9 0 1 og og
 have s6:=Calls.pr (c6 w0)
 refine al h (cD oD) vv53 rfl rfl fun b1=>ga (cD oD) vv53 rfl rfl fun b2=>gs 1 (cD N1) rfl zz53 rfl rfl rfl rfl rfl rfl rfl <| gs 0 (cD N2) rfl zz53 rfl rfl rfl rfl rfl rfl rfl <| gn hK2 <| gr fun K3 hK3=>gc (ck cc108 rfl) (kk c6) rfl ?_; clear h ac wo; intro ac wo h
 obtain ⟨N3,hN3⟩:∃ q_,(aW 0 1)=q_:=⟨_,rfl⟩
 try rw [hN3] at s6
 try rw [hN3] at h
 have c7:=f9 1 3 og og
 have s7:=Calls.pr (c7 w0)
 refine wr h (ck cc108 rfl) (kk c7) rfl ?_; clear h ac wo; intro ac wo h
 obtain ⟨N4,hN4⟩:∃ q_,(aW 1 3)=q_:=⟨_,rfl⟩
 try rw [hN4] at s7
 try rw [hN4] at h
 refine al h (cV (⟨(⟨oQ,oQ,false⟩:GR),(⟨oQ,oQ,false⟩:GR),false,false⟩:Iv)) vv86 rfl rfl fun b3=>ga (cV (⟨(⟨oQ,oQ,false⟩:GR),(⟨oQ,oQ,false⟩:GR),false,false⟩:Iv)) vv86 rfl rfl fun b4=>gs 1 (cV N3) rfl zz86 rfl rfl rfl rfl rfl rfl rfl <| gs 0 (cV N4) rfl zz86 rfl rfl rfl rfl rfl rfl rfl <| gn hK3 <| gr fun K4 hK4=>g0 (fa uu86 rfl zz4 rfl rfl rfl (k':=19)) rfl <| gs 1 (cV (⟨N3.lo,N3.hi,N3.openLo,true⟩:Iv)) rfl zz4 rfl rfl rfl rfl rfl rfl rfl <| gn hK4 <| gr fun K5 hK5=>g0 (bN bld55 rfl rfl (v:=.agg #[]) rfl) rfl <| g0 (xt Tryz.runUnderlying55 rfl rfl (v:=(.agg #[]))) rfl <| g1 0 rfl (jr aa86 zz86 rfl rfl rfl (v:=(vV N4)) rfl) rfl <| g1 2 rfl (jr aa53 zz53 rfl rfl rfl (v:=(vD N2)) rfl) rfl <| g0 (bN jh rfl rfl (v:=(vUD (⟨N4,N2⟩:U Qd))) rfl) rfl <| g1 1 rfl (jr aa86 zz86 rfl rfl rfl (v:=(vV (⟨N3.lo,N3.hi,N3.openLo,true⟩:Iv))) rfl) rfl <| g1 3 rfl (jr aa53 zz53 rfl rfl rfl (v:=(vD N1)) rfl) rfl <| g0 (bN jh rfl rfl (v:=(vUD (⟨(⟨N3.lo,N3.hi,N3.openLo,true⟩:Iv),N1⟩:U Qd))) rfl) rfl ?_; clear h ac wo; intro ac wo h
 refine nw h (cA (α:=U Qd) (xs:=[.tmp 21,.tmp 24]) (vs:=[(vUD (⟨N4,N2⟩:U Qd)),(vUD (⟨(⟨N3.lo,N3.hi,N3.openLo,true⟩:Iv),N1⟩:U Qd))]) [(⟨N4,N2⟩:U Qd),(⟨(⟨N3.lo,N3.hi,N3.openLo,true⟩:Iv),N1⟩:U Qd)] slt50 rfl rfl rfl DC) rfl ?_; clear h ac wo; intro sv8 ac wo nnsv8 h
 have s9:=RetT.pr ((fun w_ hB_ hS_=>jZ ([(⟨N4,N2⟩:U Qd),(⟨(⟨N3.lo,N3.hi,N3.openLo,true⟩:Iv),N1⟩:U Qd)]) sv8 og (All.cons ⟨(iK s7 og),(dh s5 og)⟩ (All.cons ⟨⟨(cr s6.1 og),(cr s6.2 og)⟩,(dh s2 og)⟩ All.nil)) w_ (row_view hS_ 0 rfl)) _ h.bel h.sep)
 have p10:=s9.2
 refine yO (xs:=(bn ([(⟨N4,N2⟩:U Qd),(⟨(⟨N3.lo,N3.hi,N3.openLo,true⟩:Iv),N1⟩:U Qd)])).1) h (ck Tryz.call55 rfl) (fun w_ hB_ hS_=>jZ ([(⟨N4,N2⟩:U Qd),(⟨(⟨N3.lo,N3.hi,N3.openLo,true⟩:Iv),N1⟩:U Qd)]) sv8 og (All.cons ⟨(iK s7 og),(dh s5 og)⟩ (All.cons ⟨⟨(cr s6.1 og),(cr s6.2 og)⟩,(dh s2 og)⟩ All.nil)) w_ (row_view hS_ 0 rfl)) rfl ?_; clear h ac wo; intro sv11 ac wo _ h
 obtain ⟨N5,hN5⟩:∃ q_,(bn ([(⟨N4,N2⟩:U Qd),(⟨(⟨N3.lo,N3.hi,N3.openLo,true⟩:Iv),N1⟩:U Qd)]))=q_:=⟨_,rfl⟩
 try rw [hN5] at s9
 try rw [hN5] at h
 refine rd0 h (ap rfl) rfl <| g0 (cn rfl rfl) rfl <| g0 (cn rfl rfl) rfl <| g0 (ay rfl) rfl <| g0 (ay rfl) rfl <| gn hK5 ?_; clear h ac wo; intro ac wo h
 replace h:=h.sub (F':=[(1,(ptr b1 0)),(2,(ptr b2 0)),(5,sv11),(6,(.int .i64 N5.2))]) ⟨rfl,rfl,rfl,rfl,trivial⟩
 refine qb fun K6 hK6=>?_
 have s12:=Calls.pr ((fun w_ hB_ hS_=>f9 0 1 og og w_ ) _ h.bel h.sep)
 refine im mixed [dv _,dv _,dv _,dv _,dv _,dv _,dv _,dv _,dv _,dv _,dv _,dw _ [0],dv _,dv _,dv _,dv _,dv _,dv _,dv _,dw _ [0],dw _ [5],dv _,dv _,dv _,dv _,dv _,dv _,dv _,dw _ [0],dv _,dv _,dv _,dv _,dv _,dw _ [0],dw _ [4],dv _,dv _,dv _,dw _ [5],dw _ [4],dv _,dv _,dv _] [ge _,ge _,ge _,ge _,ge _,ge _] h rfl (by kernel_rfl) ⟨fun _ _=>om rfl,fun _ _=>bg (rh rfl rfl),fun _ _=>om rfl,fun _ _=>oh rfl rfl rfl rfl (fun hg=>ap rfl),fun _ _=>oh rfl rfl rfl rfl (fun hg=>il uu50 (db rfl hg) (h.row_sl 0 rfl)),fun _ _=>oh rfl rfl rfl rfl (fun hg=>rh (db rfl hg) rfl (m:=(N5.1.length:Int)) (n:=((2:Nat):Int))),fun _ _=>bg (qr rfl (fun e=>(db rfl e))),fun _ _=>om rfl,fun _ _=>oh rfl rfl rfl rfl (fun hg=>ap rfl),fun _ _=>oh rfl rfl rfl rfl (fun hg=>iy (i:=0) uu50 zz126 (db rfl hg) rfl (h.row_nn 0 rfl og) og),fun _ _=>oh rfl rfl rfl rfl (fun hg=>fs uu126 rfl zz86 rfl (h.row_nn 0 rfl og) (db rfl hg) rfl (k':=0*32+0)),fun _ _=>oh rfl rfl rfl rfl (fun hg=>iw (k:=0) aa86 zz86 (ff og) (db rfl hg) rfl rfl rfl (v:=(vV ((gt N5.1 0).iv))) rfl),fun _ _=>og1 rfl rfl rfl rfl (fun hg=>fB (ck cc108 rfl) (kk (f9 0 1 og og))),fun _ _=>oh rfl rfl rfl rfl (fun hg=>uM eqp86 (db rfl hg) (db rfl hg)),fun _ _=>bg (qr rfl (fun e=>(db rfl e))),fun _ _=>om rfl,fun _ _=>oh rfl rfl rfl rfl (fun hg=>ap rfl),fun _ _=>oh rfl rfl rfl rfl (fun hg=>iy (i:=0) uu50 zz126 (db rfl hg) rfl (h.row_nn 0 rfl og) og),fun _ _=>oh rfl rfl rfl rfl (fun hg=>fs uu126 rfl zz53 rfl (h.row_nn 0 rfl og) (db rfl hg) rfl (k':=0*32+20)),fun _ _=>oh rfl rfl rfl rfl (fun hg=>iw (k:=20) aa53 zz53 (ff og) (db rfl hg) rfl rfl rfl (v:=(vD ((gt N5.1 0).f))) rfl),fun _ _=>oh rfl rfl rfl rfl (fun hg=>jr aa53 zz53 rfl rfl rfl (v:=(vD N1)) rfl),fun _ _=>oh rfl rfl rfl rfl (fun hg=>uM eqp53 (db rfl hg) (db rfl hg)),fun _ _=>bg (qr rfl (fun e=>(db rfl e))),fun _ _=>om rfl,fun _ _=>oh rfl rfl rfl rfl (fun hg=>ap rfl),fun _ _=>oh rfl rfl rfl rfl (fun hg=>iy (i:=1) uu50 zz126 (db rfl hg) rfl (h.row_nn 0 rfl og) og),fun _ _=>oh rfl rfl rfl rfl (fun hg=>fs uu126 rfl zz86 rfl (h.row_nn 0 rfl og) (db rfl hg) rfl (k':=1*32+0)),fun _ _=>oh rfl rfl rfl rfl (fun hg=>fs uu86 rfl zz4 rfl (h.row_nn 0 rfl og) (db rfl hg) (by first | rfl | (simp only [Nat.add_assoc] <;> rfl)) (k':=1*32+18)),fun _ _=>oh rfl rfl rfl rfl (fun hg=>iw (k:=18) aa4 zz4 (ff og) (db rfl hg) rfl rfl rfl (v:=(.bool (((gt N5.1 1).iv).openLo))) rfl),fun _ _=>bg (qr rfl (fun e=>(db rfl e))),fun _ _=>om rfl,fun _ _=>oh rfl rfl rfl rfl (fun hg=>ap rfl),fun _ _=>oh rfl rfl rfl rfl (fun hg=>iy (i:=1) uu50 zz126 (db rfl hg) rfl (h.row_nn 0 rfl og) og),fun _ _=>oh rfl rfl rfl rfl (fun hg=>fs uu126 rfl zz53 rfl (h.row_nn 0 rfl og) (db rfl hg) rfl (k':=1*32+20)),fun _ _=>oh rfl rfl rfl rfl (fun hg=>iw (k:=20) aa53 zz53 (ff og) (db rfl hg) rfl rfl rfl (v:=(vD ((gt N5.1 1).f))) rfl),fun _ _=>oh rfl rfl rfl rfl (fun hg=>jr aa53 zz53 rfl rfl rfl (v:=(vD N2)) rfl),fun _ _=>oh rfl rfl rfl rfl (fun hg=>uM eqp53 (db rfl hg) (db rfl hg)),fun _ _=>bg (qr rfl (fun e=>(db rfl e))),fun _ _=>om rfl,fun _ _=>oh rfl rfl rfl rfl (fun hg=>jr aa53 zz53 rfl rfl rfl (v:=(vD N1)) rfl),fun _ _=>oh rfl rfl rfl rfl (fun hg=>jr aa53 zz53 rfl rfl rfl (v:=(vD N2)) rfl),fun _ _=>oh rfl rfl rfl rfl (fun hg=>xq eqp53 (db rfl hg) (db rfl hg)),fun _ _=>bg (qr rfl (fun e=>(db rfl e))),fun _ _=>bg (ay rfl),trivial⟩ ?_
 clear h ac wo; intro ξ ac wo hφ h
 replace h:St w0 72 [(0,(.bool (((((((N5.2 == 0) && (((N5.1.length:Int)) == (((2:Nat):Int)))) && (decide ((gt N5.1 0).iv=(aW 0 1)))) && (decide ((gt N5.1 0).f=N1))) && ((gt N5.1 1).iv).openLo) && (decide ((gt N5.1 1).f=N2))) && (!(decide (N1=N2))))))] [.row (α:=U Qd) 126 sv11 N5.1,.row (α:=U Qd) 126 sv8 ([(⟨N4,N2⟩:U Qd),(⟨(⟨N3.lo,N3.hi,N3.openLo,true⟩:Iv),N1⟩:U Qd)]),.blk b4 (cV N4) 86,.blk b3 (cV (⟨N3.lo,N3.hi,N3.openLo,true⟩:Iv)) 86,.blk b2 (cD N2) 53,.blk b1 (cD N1) 53] ac wo:=(h.pick [0,1,2,3,4,5] DC).sub ⟨rfl,trivial⟩
 clear hφ ξ
 obtain ⟨N6,hN6⟩:∃ q_,N3=q_:=⟨_,rfl⟩
 try rw [hN6] at s12
 try rw [hN3] at h
 try rw [hN6] at h
 refine hK6 _ _ ?_
 refine c_ret ?_
 subst hN6
 subst hN5
 subst hN4
 subst hN3
 subst hN2
 subst hN1
 exact (rt h) (h.retP (by unfold iD; rfl) trivial)
attribute [irreducible] iD
end Go.Sx
