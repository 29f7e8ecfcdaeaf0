/- A part of the proof of movingpointAt. -/
import Derived.Test.YtpfdaoajcnophaaGreatDoorD4
set_option linter.unusedVariables false
set_option linter.unusedSimpArgs false
open Go.Proofs.Tryz renaming runUnderlying9 → uu9, underlying4 → nn4, isAgg46 → aa46, sizeOf46 → zz46
namespace Go.Sx
open Go Go.RowKit Go.Proofs
set_option maxRecDepth 100000
set_option maxHeartbeats 40000000
attribute [local irreducible] Code.wp wpList Rd Step ObS Ent
attribute [local irreducible] ao aK ak ap ax bI ah
attribute [local irreducible] aD aM am az aR aj aX dF iV
attribute [local instance] uq yh
theorem atG_ct (c:Crq) (s:List Stq) (sv:Value) (p q:Nat) (t:GR) (hp:p < 256) (hq:q < 256) (h8:S8R (rX t)) (k:GqR t) (hc:c.time < 256∧c.x < 256∧c.y < 256) (hs:∀ i,B4 (gt s i)) (w0:World) (hsv:View w0 sv s):Calls Tryz.prog 4 #[vCr c sv,vCt p q,vR t] w0 (RetP w0 (.bool true) True):=by
 have hs1:(bs t.p.num.mag).size+(bs t.p.den.mag).size≤8:=h8.1
 have hs2:(bs t.r.num.mag).size+(bs t.r.den.mag).size≤8:=h8.2
 have ck:=lP t trivial (eS (xw k) og)
 refine enter (N:=131) (args:=[vCr c sv,vCt p q,vR t]) Tryz.func4 rfl rfl ?_; intro ac h
 haveI:On:=⟨trivial⟩
 refine gz h <| (xb) fun b3=>(xb) fun b4=>(xb) fun b5=>(xk nt) <| (xg (hs:=by exact fun hg=>eZ enA (fun w_ hB_ hS_=>tG c s sv w_ (hsv.below hB_)))) <| (xg (hs:=by exact fun hg=>(Rd.of_nil (i0 uu9 (dr rfl hg))).step)) <| (xg (hs:=by exact fun hg=>(Rd.of_nil (i0 uu9 (dr rfl hg))).step)) <| (xg (hs:=by exact fun hg=>(Rd.of_nil (i0 uu9 (dr rfl hg))).step)) <| (xg (hs:=by exact fun hg=>(Rd.of_nil (i0 uu9 (dr rfl hg))).step)) <| (xg (hs:=by exact fun hg=>eZ enA (kk ck))) <| (ai) ?_ ?_ <;> clear h ac <;> intro ac wo h hc1
 · refine gz h <| (xk nt) <| (W) ?_; clear h ac wo; intro ac wo h
   exact (rt h) (h.retP rfl trivial)
 rw [Bool.or_eq_false_iff] at hc1
 have hl:s.length≤6:=by
  have h9:=hc1.1
  simp at h9; omega
 have h0:ef t=0:=by simpa using hc1.2
 have tI:TmI t:=⟨sE h0,(gq_bq k.1).le (by decide),(gq_bq k.2).le (by decide)⟩
 letI:Key:=xq p q t hp hq tI
 haveI:KeyZ:=ktZ
 haveI:KeyB:=ktB
 haveI:KeyG p q:=ktG
 obtain ⟨hN,hD,_⟩:=mov_ok c s p q
 have hn:=mov_len c s p q
 obtain ⟨l,hle⟩:∃ l,vi c s p q=l:=⟨_,rfl⟩
 rw [hle] at hN hD hn
 have ht:Tm t:=ktT.1
 have ht2:Tm (ah t.p):=ktT.2
 have zl:All (jh 30) l:=mv_sz hN hD 30 (by decide)
 have zt:SzR 30 t:=eS (xw k) og
 have ll:l.length≤1000:=by omega
 have cF:=cO t.p 30 og zt.1
 have zt2:SzR 30 (ah t.p):=an (cF w0)
 obtain ⟨V,hV⟩:∃ V,sj l t=V:=⟨_,rfl⟩
 obtain ⟨T,hT⟩:∃ T,sj l (ah t.p)=T:=⟨_,rfl⟩
 obtain ⟨A,hA⟩:∃ A,nj l t.p=A:=⟨_,rfl⟩
 have eV:mAtV l t=V:=by rw [At_eq hN ht,hV]
 obtain ⟨g1,g2,g3⟩:=AtRat_eq hN dkT hD tI.ok.1 ht2
 rw [hA,hT] at g1 g2 g3
 have g4:=dom_has hN ht
 rw [eV] at g4
 refine gz h <| (W) ?_; clear h ac wo; intro ac wo h
 refine ip (xs:=l) h (dl Tryz.call19 rfl) (fun w_ hB_ hS_=>by rw [← hle]; exact w6 c s sv p q hp hq hc hs hl w_ (hsv.below hB_)) rfl ?_; clear h ac wo; intro lv ac wo _ h
 refine gz h <| (xc (ct:=by exact fun w_ hB_ hS_=>by have:=mAt_ct l lv t ll zl zt w_ (row_view hS_ 0 rfl); rw [eV] at this; exact this)) <| (xa) fun b8=>(W) ?_; clear h ac wo; intro ac wo h
 refine gz h <| (xc (ct:=by exact fun w_ hB_ hS_=>by have:=vAt_ct l lv t ll zl zt w_ (row_view hS_ 1 rfl); rw [hV] at this; exact this)) <| (xa) fun b10=>(W) ?_; clear h ac wo; intro ac wo h
 refine gz h <| (xc (ct:=by exact fun w_ hB_ hS_=>by have:=atRat_ct l lv t.p ll zl zt.1 w_ (row_view hS_ 2 rfl); rw [hA] at this; exact this)) <| (xa) fun b12=>(W) ?_; clear h ac wo; intro ac wo h
 refine gz h <| (xk cF) <| (xc (ct:=by exact fun w_ hB_ hS_=>by have:=vAt_ct l lv (ah t.p) ll zl zt2 w_ (row_view hS_ 3 rfl); rw [hT] at this; exact this)) <| (xa) fun b14=>(W) ?_; clear h ac wo; intro ac wo h
 obtain ⟨d,hd⟩:∃ d,mf l=d:=⟨_,rfl⟩
 rw [hd] at g4
 have cd:=fun lv w hv=>mdom_ct l lv (by omega) hN.wv w hv
 have ce:=fun lv w hv=>si l lv (by omega) hN.wv w hv
 rw [hd] at cd ce
 have pd:=RetR.pr (cd lv wo (row_view h.sep 4 rfl))
 have ld:d.length≤1000:=by omega
 have z:SzN 30 (bJ l (ah t.p)).1:=an (fM l lv (ah t.p) ll zl zt2 wo (row_view h.sep 4 rfl))
 have zA:SzQ 20 A.1.x∧SzQ 20 A.1.y:=by
  rw [← hA]; unfold nj
  cases (bJ l (ah t.p)).2 with
  | true=>exact ⟨an (fk _ _ 20 og (an (xi _ 30 og z wo)) zt.1 wo),an (fk _ _ 20 og (an (xh _ 30 og z wo)) zt.1 wo)⟩
  | false=>exact ⟨⟨bu 0 (by decide) og,bu 0 (by decide) og⟩,⟨bu 0 (by decide) og,bu 0 (by decide) og⟩⟩
 have cg1:=cO A.1.x 20 og zA.1
 have cg2:=cO A.1.y 20 og zA.2
 rw [g2] at cg1
 rw [g3] at cg2
 have cc:=fun pv w hv=>jB d pv t ld pd.1 zt w hv
 rw [g4] at cc
 rw [g1] at h
 replace h:St w0 131 [(5,ptr b5 0),(7,lv),(8,ptr b8 0),(9,.bool V.2),(10,ptr b10 0),(11,.bool V.2),(12,ptr b12 0),(13,.bool T.2),(14,ptr b14 0),(15,.bool T.2)] [.blk b14 (cRP T.1) 49,.blk b12 (cPt A.1) 39,.blk b10 (cRP V.1) 49,.blk b8 (cRP V.1) 49,.row (α:=U Ln) 165 lv l,.blk b5 (cR t) 46] ac wo:=(h.pick [0,1,2,3,4,5] (by decide)).sub ⟨rfl,rfl,rfl,rfl,rfl,rfl,rfl,rfl,rfl,rfl,trivial⟩
 replace h:=h.emps 3
 refine draws2 mixed [dw (vRP V.1) [3],dw (vRP V.1) [2],dv (.bool true),dv (.bool true),dv (.bool V.2),dv (.bool V.2),dv (.bool true),dv (.bool true),dv (.bool true),dv (.bool T.2),dv (.bool T.2),dv (.bool true),dv (.bool true),dv (.bool true),dv (ptr b12 0),dw (vQ A.1.x) [1],dv (vR T.1.x),dv (ptr b14 0),dw (vR T.1.x) [0],dv (.bool true),dv (.bool true),dv (.bool true),dv (ptr b12 4),dw (vQ A.1.y) [1],dv (vR T.1.y),dv (ptr b14 9),dw (vR T.1.y) [0],dv (.bool true),dv (.bool true),dv (.bool true),dv lv,⟨.nd (.con True),[6,4]⟩,dv lv,⟨.nd (.con True),[7,4]⟩,dw (.bool true) [6,7],dv (.bool true),dv (.bool true),dv lv,⟨.nd (.con True),[8,4]⟩,dw (vR t) [5],dw (.bool V.2) [8],dv (.bool V.2),dv (.bool true),dv (.bool true),dv (.bool true)]
  [⟨_,[]⟩,⟨_,[]⟩,⟨_,[]⟩,⟨_,[]⟩,⟨.row (α:=U Ln) 165 lv l,[]⟩,⟨_,[]⟩,⟨.emp,[(31,.one 31 fun x=>.row (α:=Iv) 74 x d)]⟩,⟨.emp,[(33,.one 33 fun x=>.row (α:=Iv) 74 x d)]⟩,⟨.emp,[(38,.one 38 fun x=>.row (α:=Iv) 74 x d)]⟩] h rfl (by kernel_rfl)
  ⟨fun _ _=>obI (il _ rfl rfl (iT Tryz.isAgg49 Tryz.sizeOf49 rfl rfl rfl (v:=vRP V.1) rfl)),
   fun _ _=>obI (il _ rfl rfl (iT Tryz.isAgg49 Tryz.sizeOf49 rfl rfl rfl (v:=vRP V.1) rfl)),
   fun _ _=>obI (aZ (Rd.cast (tQ eqp49 rfl rfl) (by simp))),
   oI obA,
   oJ obA,
   oJ obA,
   fun _ _=>obK rfl rfl (aZ (Rd.cast (pe nn4 rfl rfl) (by simp))),
   fun _ _=>obI (aZ (kq rfl (fun _=>rfl) (fun h=>Bool.noConfusion h))),
   oI obA,
   oJ obA,
   oJ obA,
   fun _ _=>obK rfl rfl (aZ (Rd.cast (pe nn4 rfl rfl) (by simp))),
   fun _ _=>obI (aZ (kq rfl (fun _=>rfl) (fun h=>Bool.noConfusion h))),
   oI obA,
   oJ obA,
   fun _ _=>obK rfl rfl (il _ rfl rfl (iT Tryz.isAgg29 Tryz.sizeOf29 rfl rfl rfl (v:=vQ A.1.x) rfl)),
   fun _ _=>obK rfl rfl (g7 (gg Tryz.call26 rfl cg1)),
   oJ obA,
   fun _ _=>obK rfl rfl (il _ rfl rfl (iT aa46 zz46 rfl rfl rfl (v:=vR T.1.x) rfl)),
   fun _ _=>obK rfl rfl (aZ (Rd.cast (tQ eqp71 rfl rfl) (by simp))),
   fun _ _=>obI (aZ (kq rfl (fun _=>rfl) (fun h=>Bool.noConfusion h))),
   oI obA,
   oJ obA,
   fun _ _=>obK rfl rfl (il _ rfl rfl (iT Tryz.isAgg29 Tryz.sizeOf29 rfl rfl rfl (v:=vQ A.1.y) rfl)),
   fun _ _=>obK rfl rfl (g7 (gg Tryz.call26 rfl cg2)),
   oJ obA,
   fun _ _=>obK rfl rfl (il _ rfl rfl (iT aa46 zz46 rfl rfl rfl (v:=vR T.1.y) rfl)),
   fun _ _=>obK rfl rfl (aZ (Rd.cast (tQ eqp71 rfl rfl) (by simp))),
   fun _ _=>obI (aZ (kq rfl (fun _=>rfl) (fun h=>Bool.noConfusion h))),
   oI obA,
   oJ obA,
   fun ξ _=>obK rfl rfl (na (B:=fun x=>[.row (α:=Iv) 74 x d,.row (α:=U Ln) 165 lv l]) [.emp,.row (α:=U Ln) 165 lv l] rfl (fun v _=>by simp only [dh,bo] <;> rfl) (fun _ _=>trivial) (qW (v8 (dl Tryz.call28 rfl) (fun w_ hB_ hS_=>cd lv w_ (row_view hS_ 0 rfl))))),
   oJ obA,
   fun ξ _=>obK rfl rfl (na (B:=fun x=>[.row (α:=Iv) 74 x d,.row (α:=U Ln) 165 lv l]) [.emp,.row (α:=U Ln) 165 lv l] rfl (fun v _=>by simp only [dh,bo] <;> rfl) (fun _ _=>trivial) (qW (v8 (dl Tryz.call29 rfl) (fun w_ hB_ hS_=>ce lv w_ (row_view hS_ 0 rfl))))),
   fun ξ _=>by
    refine obK rfl rfl (ly [.row (α:=Iv) 74 (ξ 31) d,.row (α:=Iv) 74 (ξ 33) d] [.row (α:=Iv) 74 (ξ 31) d,.row (α:=Iv) 74 (ξ 33) d] ?_ ?_ ?_)
    · rfl
    · rfl
    · exact eZ (dl Tryz.call27 rfl) (fun w_ hB_ hS_=>pEq_ct d (ξ 31) (ξ 33) ld w_ (row_view hS_ 0 rfl) (row_view hS_ 1 rfl)),
   fun _ _=>obI (aZ (kq rfl (fun _=>rfl) (fun h=>Bool.noConfusion h))),
   oI obA,
   oJ obA,
   fun ξ _=>obK rfl rfl (na (B:=fun x=>[.row (α:=Iv) 74 x d,.row (α:=U Ln) 165 lv l]) [.emp,.row (α:=U Ln) 165 lv l] rfl (fun v _=>by simp only [dh,bo] <;> rfl) (fun _ _=>trivial) (qW (v8 (dl Tryz.call29 rfl) (fun w_ hB_ hS_=>ce lv w_ (row_view hS_ 0 rfl))))),
   fun _ _=>obK rfl rfl (il _ rfl rfl (iT aa46 zz46 rfl rfl rfl (v:=vR t) rfl)),
   fun ξ _=>obK rfl rfl (ly [.row (α:=Iv) 74 (ξ 38) d] [.row (α:=Iv) 74 (ξ 38) d] rfl rfl (eZ (dl Tryz.call30 rfl) (fun w_ hB_ hS_=>cc (ξ 38) w_ (row_view hS_ 0 rfl)))),
   oJ obA,
   fun _ _=>obK rfl rfl (aZ (Rd.cast (pe nn4 rfl rfl) (by simp))),
   fun _ _=>obI (aZ (kq rfl (fun _=>rfl) (fun h=>Bool.noConfusion h))),
   oI obA,trivial⟩ ?_
 clear h ac wo; intro ξ ac wo hφ h
 replace h:St w0 131 [(6,.bool true)] [] ac wo:=(h.pick [] (by decide)).sub ⟨rfl,trivial⟩
 refine gz h <| (W) ?_; clear h ac wo; intro ac wo h
 exact (rt h) (h.retP rfl trivial)
end Go.Sx
namespace Go.Sx
open Go Go.RowKit Go.Proofs
theorem at_ct (c:Crq) (s:List Stq) (sv:Value) (p q:Nat) (x:XR) (hp:p < 256) (hq:q < 256) (hz:xsz x.p≤9223372036854775807∧xsz x.r≤9223372036854775807) (hc:c.time < 256∧c.x < 256∧c.y < 256) (hs:∀ i,B4 (gt s i)) (w0:World) (hsv:View w0 sv s):Calls Tryz.prog 4 #[vCr c sv,vCt p q,vXR x] w0 (RetP w0 (.bool true) True):=by
 by_cases h:S8R x∧GdR x
 · obtain ⟨a,rfl,k⟩:=gdr_is h.2
   exact atG_ct c s sv p q a hp hq h.1 k hc hs w0 hsv
 · exact atX_ct c s sv p q x hz h w0 hsv
end Go.Sx
