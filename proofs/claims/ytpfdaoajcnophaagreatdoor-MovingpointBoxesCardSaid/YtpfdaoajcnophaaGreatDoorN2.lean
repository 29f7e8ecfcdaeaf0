/- A part of the proof of movingpointBoxes. -/
import Derived.Test.YtpfdaoajcnophaaGreatDoorM7
import Derived.Test.YtpfdaoajcnophaaGreatDoorM9
import Derived.Test.YtpfdaoajcnophaaGreatDoorN1
set_option linter.unusedVariables false
set_option linter.unusedSimpArgs false
open Go.Proofs.Tryz renaming runUnderlying76 → uu76, runUnderlying275 → uu275, underlying27 → nn27, underlying29 → nn29
namespace Go.Sx
def kcL (p q:Nat):List GR:=(List.range 65).map inZ++[an (qa p),an (qa (p+q)),gX p]
theorem inZ0:(default:GR)=inZ 0:=by
 have e:aw 0=⟨false,0⟩:=vr (kn 0) (fun _=>rfl) (by rw [fO]; rfl)
 have h:ah ((0:Nat):Int)=⟨⟨false,0⟩,⟨false,0⟩⟩:=by unfold ah; rw [show ((0:Nat):Int)=0 from rfl,e]
 unfold inZ
 rw [h]
 unfold an
 rfl
theorem zF {p q:Nat} {x:GR} (h:x∈kcL p q):(∃ n,n≤64∧x=inZ n)∨x=an (qa p)∨x=an (qa (p+q))∨x=gX p:=by
 unfold kcL at h
 rcases List.mem_append.1 h with h | h
 · obtain ⟨n,hn,rfl⟩:=List.mem_map.1 h
   exact .inl ⟨n,by have:=List.mem_range.1 hn; omega,rfl⟩
 · simp at h; exact .inr h
theorem kcL_z {p q n:Nat} (h:n≤64):inZ n∈kcL p q:=List.mem_append_left _ (List.mem_map_of_mem (List.mem_range.2 (by omega)))
theorem kc_ok {p q:Nat} {x:GR} (h:x∈kcL p q):ROk x:=by
 rcases zF h with ⟨n,_,rfl⟩ | rfl | rfl | rfl
 · exact inZ_ok n
 · exact n7 (p7 _).1
 · exact n7 (p7 _).1
 · exact gX_ok p
theorem kc_bq {p q:Nat} (hp:p < 256) (hq:q < 256) {x:GR} (h:x∈kcL p q):Bq 100 x.p∧Bq 100 x.r:=by
 rcases zF h with ⟨n,hn,rfl⟩ | rfl | rfl | rfl
 · exact ⟨Bq.int _ (by omega) (by decide),Bq.zero (by decide)⟩
 · exact ⟨(qa_bq (by omega)).le (by decide),Bq.zero (by decide)⟩
 · exact ⟨(qa_bq (by omega)).le (by decide),Bq.zero (by decide)⟩
 · exact ⟨(qa_bq (by omega)).le (by decide),Bq.int _ (by decide) (by decide)⟩
end Go.Sx
namespace Go.Sx
open Go Go.RowKit Go.Proofs
set_option maxRecDepth 100000
set_option maxHeartbeats 40000000
attribute [local irreducible] Code.wp wpList Rd Step ObS Ent
attribute [local irreducible] ao aL ah au ax bN an aP
attribute [local irreducible] aH aI am aq aE ak aS dA ij bI aw
theorem short_ct (c:Crq) (s:List Stq) (sv:Value) (w0:World) (hsv:View w0 sv s):Calls Tryz.prog 17 #[vCr c sv] w0 (dE w0 (.bool (decide (((s.length:Nat):Int)≤6))) True):=by
 refine enter (N:=7) (args:=[vCr c sv]) Tryz.func17 rfl rfl ?_; intro ac h
 have hlen:=hsv.len
 refine gz h <| (xb) fun b1=>(W) ?_; clear h ac; intro ac wo h
 exact (rt h) (h.retP rfl trivial)
section
variable [K:Key] [KeyZ] [KeyB]
omit [KeyZ] [KeyB] in
theorem mv_sz {l:List (U Ln)} (hN:NFl l) (hD:∀ u∈l,DT u.f) (k:Nat) (hk:k≤30):All (jD k) l:=fun u hu=>rZ (tL (hN.wv u hu) ((hD u hu).bl (by decide)) (by decide)) hk
omit [KeyZ] [KeyB] in
end
end Go.Sx
namespace Go.Sx
open Go Go.RowKit Go.Proofs
set_option maxRecDepth 100000
set_option maxHeartbeats 40000000
attribute [local irreducible] Code.wp wpList Rd Step ObS Ent
attribute [local irreducible] ao aL ah au ax bN an aP
attribute [local irreducible] aH aI am aq aE ak aS dA ij bI aw
instance yN2_1:Sz Tryz.prog 76 32:=⟨Tryz.sizeOf76⟩
instance yN2_2:Ag Tryz.prog 76 true:=⟨Tryz.isAgg76⟩
instance yN2_3:Un Tryz.prog 66 (.slice 76):=⟨Tryz.runUnderlying66⟩
instance yN2_4:Fl Tryz.prog 76 0 74 0:=⟨⟨_,_,uu76,rfl,rfl,rfl⟩⟩
instance yN2_5:Fl Tryz.prog 76 1 72 20:=⟨⟨_,_,uu76,rfl,rfl,rfl⟩⟩
end Go.Sx
namespace Go.Sx
open Go Go.RowKit Go.Proofs
set_option maxRecDepth 100000
set_option maxHeartbeats 40000000
attribute [local irreducible] Code.wp wpList Rd Step ObS Ent
attribute [local irreducible] ao aL ah au ax bN an aP
attribute [local irreducible] aH aI am aq aE ak aS dA ij bI aw dP
theorem sH (w : World) : (method (Tryz.prog.types.size + Made.depth) 275 (.agg #[]) "Check").run Tryz.prog w = .ok (407, .agg #[]) w := nI (P := Tryz.prog) (T := 275) Tryz.type275 (by kernel_rfl) uu275 w
instance yN2_6 : Mt Tryz.prog 275 (.agg #[]) "Check" 407 := ⟨sH⟩
theorem rp (w : World) : (nilAhead (Tryz.prog.types.size + Made.depth) 275 (.agg #[]) "Check").run Tryz.prog w = .ok (some false) w := kV (P := Tryz.prog) (T := 275) (f := 407) Tryz.type275 (by kernel_rfl) uu275 w
instance yN2_7 : Nl Tryz.prog 275 (.agg #[]) "Check" := ⟨rp⟩
end Go.Sx
namespace Go.Sx
open Go Go.RowKit Go.Proofs
set_option maxRecDepth 100000
set_option maxHeartbeats 40000000
attribute [local irreducible] Code.wp wpList Rd Step ObS Ent
attribute [local irreducible] ao aL ah au ax bN an aP
attribute [local irreducible] aH aI am aq aE ak aS dA ij bI aw
def bH (x:GR) (r:GQ):GR:=⟨aq x.p r,x.r,x.neg⟩
theorem mt (x:GR) (r:GQ) (k:Nat) (hk:k+3≤40) (zx:SzR (k+3) x) (zr:SzQ (k+3) r) (w0:World):Calls Tryz.prog 88 #[vR x,vQ r] w0 (dE w0 (vR (bH x r)) (SzR k (bH x r))):=by
 refine enter (N:=11) (args:=[vR x,vQ r]) Tryz.func88 rfl rfl ?_; intro ac h
 have c1:=bQ x.p r k hk zx.1 zr
 have s1:=ap (c1 w0)
 refine gz h <| (xb) fun b1=>(xb) fun b2=>(xa) fun b3=>(xk c1) <| (xs 2 (cR ⟨aq x.p r,x.r,x.neg⟩)) <| (W) ?_; clear h ac; intro ac wo h
 exact rtc 0 h (h.retP (u:=vR (bH x r)) rfl ⟨s1,cu zx.2 (by omega)⟩)
instance yN2_8 (a b c:GQ):Bu Tryz.prog 72 [0,1,2] [vQ a,vQ b,vQ c] (vD ⟨a,b,c⟩):=Bu.of w9 rfl rfl
def bq (q:Qd) (r:GQ):Qd:=⟨aH q (aE r),aq q.c1 (am (aq q.c2 q.c2) (aE r)),q.c2⟩
theorem jK (q:Qd) (r:GQ) (k:Nat) (hk:k+10≤40) (zq:SzD (k+10) q) (zr:SzQ (k+10) r) (w0:World):Calls Tryz.prog 103 #[vD q,vQ r] w0 (dE w0 (vD (bq q r)) (SzD k (bq q r))):=by
 refine enter (N:=26) (args:=[vD q,vQ r]) Tryz.func103 rfl rfl ?_; intro ac h
 have c1:=fc r (k+10) og zr
 have s1:=ap (c1 w0)
 have c2:=bQ q.c2 q.c2 (k+7) og zq.2.2 zq.2.2
 have s2:=ap (c2 w0)
 have c3:=iG q (aE r) k og zq s1
 have s3:=ap (c3 w0)
 have c4:=bo (aq q.c2 q.c2) (aE r) (k+5) og s2 (cu s1 (by omega))
 have s4:=ap (c4 w0)
 have c5:=bQ q.c1 (am (aq q.c2 q.c2) (aE r)) (k+2) og (cu zq.2.1 (by omega)) s4
 have s5:=ap (c5 w0)
 refine gz h <| (xb) fun b1=>(xb) fun b2=>(xa) fun b3=>(xk c1) <| (xa) fun b4=>(xk c2) <| (xa) fun b5=>(dr1 (H:=[⟨.blk b5 (cQ (aq q.c2 q.c2)) 29,[]⟩,⟨.blk b4 (cQ (aE r)) 29,[]⟩,⟨.blk b3 (cD ⟨oQ,oQ,oQ⟩) 72,[(12,.con (.blk b3 (cD (bq q r)) 72))]⟩,⟨.blk b2 (cQ r) 29,[]⟩,⟨.blk b1 (cD q) 72,[]⟩]) (hob:=(oK c3) <| (oK c4) <| (oK c5) <| oE)) <| (W) ?_; clear h ac; intro ac wo h
 exact rtc 2 h (h.retP (u:=vD (bq q r)) rfl ⟨s3,cu s5 (by omega),cu zq.2.2 (by omega)⟩)
end Go.Sx
namespace Go.Sx
open Go Go.RowKit Go.Proofs
set_option maxRecDepth 100000
set_option maxHeartbeats 40000000
attribute [local irreducible] Code.wp wpList Rd Step ObS Ent
attribute [local irreducible] ao aL ah au ax bN an aP
attribute [local irreducible] aH aI am aq aE ak aS dA ij bI aw bq
def shV (v:GQ) (i:Iv):Iv:=⟨bH i.lo v,bH i.hi v,i.openLo,i.openHi⟩
end Go.Sx
namespace Go.Sx
open Go Go.RowKit Go.Proofs
set_option maxRecDepth 100000
set_option maxHeartbeats 40000000
attribute [local irreducible] Code.wp wpList Rd Step ObS Ent
attribute [local irreducible] ao aL ah au ax bN an aP
attribute [local irreducible] aH aI am aq aE ak aS dA ij bI aw bq
def SzP (k:Nat) (p:Pnt):Prop:=SzQ k p.x∧SzQ k p.y
end Go.Sx
namespace Go.Sx
open Go Go.RowKit Go.Proofs
set_option maxRecDepth 100000
set_option maxHeartbeats 40000000
attribute [local irreducible] Code.wp wpList Rd Step ObS Ent
attribute [local irreducible] ao aL ah au ax bN an aP
attribute [local irreducible] aH aI am aq aE ak aS dA ij bI aw bq bH
theorem aar (s:List Iv) (sv:Value) (hl:s.length≤1000) (w0:World) (hsv:View w0 sv s):Calls Tryz.prog 211 #[sv] w0 (RetR w0 74 s True):=by
 refine enter (N:=8) (args:=[sv]) Tryz.func211 rfl rfl ?_; intro ac h
 have hlens:=hsv.len
 refine gz h <| (xo (hs:=by exact yF Tryz.underlying56 hsv.sl rfl)) <| (ai) ?_ ?_ <;> clear h ac <;> intro ac wo h hc1
 ·
  have hq1:=hc1; try simp at hq1
  refine gz h <| (W) ?_; clear h ac wo; intro ac wo h
  replace h:=h.nilRow (α:=Iv) 74
  have hd:s=[]:=(hsv.nil hc1).1
  exact (rt h) (by rw [hd]; exact h.retR 0 rfl trivial)
 ·
  have hq1:=hc1; try simp at hq1
  refine gz h <| (W) ?_; clear h ac wo; intro ac wo h
  refine nw h (dG (α:=Iv) (xs:=[]) (vs:=[]) [] lL rfl rfl rfl (by decide)) rfl ?_; clear h ac wo; intro sv2 ac wo nnsv2 h
  refine gz h <| (W) ?_; clear h ac wo; intro ac wo h
  refine on1 h 0 rfl (s_appV (xs:=[]) (ys:=s) lL hsv rfl rfl og) rfl ?_; clear h ac wo; intro sv3 ac wo apsv3 h
  refine gz h <| (W) ?_; clear h ac wo; intro ac wo h
  exact (rt h) (h.retR 0 rfl trivial)
theorem xK {xs:List Iv} {i:Nat} {u:Iv} (h:i < xs.length):(xs.set i u).take (i+1)=xs.take i++[u]:=by
 rw [List.take_succ_eq_append_getElem (by rw [List.length_set]; exact h),List.getElem_set_self,List.take_set_of_le (Nat.le_refl _)]
theorem wC (p:List Iv) (pv:Value) (v:GQ) (hl:p.length≤1000) (zp:All (SzV 30) p) (zv:SzQ 30 v) (w0:World) (hpv:View w0 pv p) :
 Calls Tryz.prog 107 #[pv,vQ v] w0 (RetR w0 74 (p.map (shV v)) True):=by
 refine enter (N:=38) (args:=[pv,vQ v]) Tryz.func107 rfl rfl ?_; intro ac h
 refine gz h <| (xb) fun b3=>(W) ?_; clear h ac; intro ac wo h
 refine jo (xs:=p) h (dH Tryz.call211 rfl) (fun w_ hB_ hS_=>aar p pv hl w_ (hpv.below hB_)) rfl ?_; clear h ac wo; intro sv ac wo _ h
 have hlen:=h.len 0 rfl
 refine gz h <| (W) ?_; clear h ac wo; intro ac wo h
 refine wp_loop_ghost (fun n_ a_ w_=>∃ (i:Nat) (xs:List Iv),(p.length - i < n_)∧(i≤p.length)∧(xs.length=p.length)∧(xs.take i=(p.take i).map (shV v))∧(∀ t,i≤t→gt xs t=gt p t)∧St w0 38 [(3,ptr b3 0),(5,sv),(9,sv),(10,iN p.length),(11,iN i)] [.row (α:=Iv) 74 sv xs,.blk b3 (cQ v) 29] a_ w_) (p.length+1)
  ⟨0,p,by omega,by omega,rfl,by simp,fun _ _=>rfl,h.re [0,1]⟩ ?_
 clear h ac wo; rintro n1 ac wo ⟨i,xs,hm1,hi,hxl,hxt,hxs,h⟩
 obtain ⟨m1,rfl⟩:∃ m,n1=m+1:=⟨n1 - 1,by omega⟩
 refine gz h <| (ai) ?_ ?_ <;> clear h ac wo <;> intro ac wo h hc1
 ·
  have hd1:i < p.length:=by have:=of_decide_eq_true hc1; omega
  have hdx:i < xs.length:=by omega
  have hnn:=(row_view h.sep 0 rfl).nn hdx
  have hup:gt xs i=gt p i:=hxs i (Nat.le_refl _)
  have hxx:xs[i]?=some (gt xs i):=nO hdx
  have z:SzV 30 (gt xs i):=by rw [hup]; exact All.gt zp (SzV_d _)
  have c1:=mt (gt xs i).lo v 27 og z.1 zv
  have c2:=mt (gt xs i).hi v 27 og z.2 zv
  obtain ⟨y1,hy1⟩:∃ y,(⟨bH (gt xs i).lo v,(gt xs i).hi,(gt xs i).openLo,(gt xs i).openHi⟩:Iv)=y:=⟨_,rfl⟩
  obtain ⟨y2,hy2⟩:∃ y,shV v (gt xs i)=y:=⟨_,rfl⟩
  refine gz h <| (W) ?_; clear h ac wo; intro ac wo h
  refine eZ mixed [dv _,dv _,dv _,dv _,dv _,dv _,dv (sel sv (i*20+0)),dv (sel sv (i*20+0)),dw (vR (gt xs i).lo) [0],dw (vQ v) [1],dv (vR (bH (gt xs i).lo v)),dv _,dv _,dv (sel sv (i*20+0)),dv (sel sv (i*20+9)),dw (vR (gt xs i).hi) [0],dw (vQ v) [1],dv (vR (bH (gt xs i).hi v)),dv (sel sv (i*20+0)),dv (sel sv (i*20+0)),dw undef [0],dv (sel sv (i*20+0)),dv (sel sv (i*20+9)),dw undef [0]]
   [⟨.row (α:=Iv) 74 sv xs,[(20,.con (.row (α:=Iv) 74 sv (xs.set i y1))),(23,.con (.row (α:=Iv) 74 sv ((xs.set i y1).set i y2)))]⟩,⟨_,[]⟩] h rfl (by kernel_rfl)
   ⟨oA obA,oA obA,oA obA,oA obA,oA obA,oA obA,oA obA,oA obA,oA obA,oA obA,oA fun _=>fD (dZ Tryz.call88 rfl c1),oA obA,oA obA,oA obA,oA obA,oA obA,oA obA,oA fun _=>fD (dZ Tryz.call88 rfl c2),oA obA,oA obA,
    fun _ _=>kb [.row (α:=Iv) 74 sv xs] [.row (α:=Iv) 74 sv (xs.set i y1)] rfl rfl (ik (k:=0) (u':=y1) Tryz.sizeOf46 hxx rfl rfl rfl rfl rfl rfl rfl (by rw [← hy1]; rfl)),oA obA,oA obA,
    fun _ _=>kb [.row (α:=Iv) 74 sv (xs.set i y1)] [.row (α:=Iv) 74 sv ((xs.set i y1).set i y2)] rfl rfl (ik (k:=9) (u':=y2) Tryz.sizeOf46 (u:=y1) (by rw [List.getElem?_set_self hdx]) rfl rfl rfl rfl rfl rfl rfl (by rw [← hy1,← hy2]; rfl)),trivial⟩ ?_
  clear h ac wo; intro ξ ac wo hφ h
  replace h:St w0 38 [(3,ptr b3 0),(5,sv),(9,sv),(10,iN p.length),(11,iN i)] [.row (α:=Iv) 74 sv ((xs.set i y1).set i y2),.blk b3 (cQ v) 29] ac wo:=h.sub ⟨rfl,rfl,rfl,rfl,rfl,trivial⟩
  clear hφ ξ
  rw [List.set_set] at h
  refine gz h <| (W) ?_; clear h ac wo; intro ac wo h
  refine aO ⟨m1,by omega,i+1,xs.set i y2,by omega,by omega,by rw [List.length_set]; exact hxl,?_,fun t ht=>?_,h.re [0,1]⟩
  · rw [xK hdx,hxt,← lx hd1,List.map_append,← hy2,hup]; rfl
  · rw [sU (by omega)]; exact hxs t (by omega)
 ·
  have hd1:=of_decide_eq_false hc1
  obtain rfl:i=p.length:=by omega
  rw [← hxl,List.take_length,hxl,List.take_length] at hxt
  rw [hxt] at h
  refine gz h <| (W) ?_; clear h ac wo; intro ac wo h
  exact (rt h) (h.retR 0 rfl trivial)
end Go.Sx
namespace Go.Sx
open Go Go.RowKit Go.Proofs
set_option maxRecDepth 100000
set_option maxHeartbeats 40000000
attribute [local irreducible] Code.wp wpList Rd Step ObS Ent
attribute [local irreducible] ao aL ah au ax bN an aP
attribute [local irreducible] aH aI am aq aE ak aS dA ij bI aw bq bH
def mvF (r:GQ) (p:Pnt) (f:Ln):Ln:=⟨aq (bq (lxs f) r).c0 p.x,(bq (lxs f) r).c1,aq (bq (lys f) r).c0 p.y,(bq (lys f) r).c1⟩
def mvU (r:GQ) (p:Pnt) (u:U Ln):U Ln:=⟨shV r u.iv,mvF r p u.f⟩
theorem moved_ct (l:List (U Ln)) (lv:Value) (r:GQ) (p:Pnt) (hl:l.length < 20) (zl:All (jD 30) l) (zq:SzQ 30 r) (zp:SzP 20 p) (zr:All (jD 30) (l.map (mvU r p))) (w0:World) (hlv:View w0 lv l) :
 Calls Tryz.prog 18 #[lv,vQ r,vPt p] w0 (RetR w0 165 (aU (l.map (mvU r p))).1 True):=by
 refine enter (N:=80) (args:=[lv,vQ r,vPt p]) Tryz.func18 rfl rfl ?_; intro ac h
 have hlen:=hlv.len
 refine gz h <| (xb) fun b4=>(xb) fun b5=>(W) ?_; clear h ac; intro ac wo h
 replace h:=h.nilRow (α:=U Ln) 165
 refine wp_loop_ghost (fun n_ a_ w_=>∃ (i:Nat) (sv:Value),(l.length - i < n_)∧(i≤l.length)∧St w0 80 [(0,lv),(4,ptr b4 0),(5,ptr b5 0),(7,sv),(8,iN i)] [.row (α:=U Ln) 165 sv ((l.take i).map (mvU r p)),.blk b4 (cQ r) 29,.blk b5 (cPt p) 39] a_ w_) (l.length+1) ⟨0,_,by omega,by omega,h.re [0,2,1]⟩ ?_
 clear h ac wo; rintro n1 ac wo ⟨i,sv,hm1,hi,h⟩
 obtain ⟨m1,rfl⟩:∃ m,n1=m+1:=⟨n1 - 1,by omega⟩
 refine gz h <| (ai) ?_ ?_ <;> clear h ac wo <;> intro ac wo h hc1
 ·
  have hd1:i < l.length:=by have:=of_decide_eq_true hc1; omega
  have n1':=hlv.nn hd1
  have z:=All.gt zl (i:=i) (cC _)
  have c1:=vxs_ct (gt l i).f 30 og z.2
  have c2:=vys_ct (gt l i).f 30 og z.2
  have c3:=jK (lxs (gt l i).f) r 20 og (ap (c1 w0)) zq
  have s3:=ap (c3 w0)
  have c4:=jK (lys (gt l i).f) r 20 og (ap (c2 w0)) zq
  have s4:=ap (c4 w0)
  have c5:=bQ (bq (lxs (gt l i).f) r).c0 p.x 17 og s3.1 zp.1
  have c6:=bQ (bq (lys (gt l i).f) r).c0 p.y 17 og s4.1 zp.2
  refine gz h <| (W) ?_; clear h ac wo; intro ac wo h
  replace h:=h.emps 2
  obtain ⟨x,hx⟩:∃ x:U Ln,mvU r p (gt l i)=x:=⟨_,rfl⟩
  obtain ⟨g,hg⟩:∃ g:Ln,mvF r p (gt l i).f=g:=⟨_,rfl⟩
  have hxe:(⟨shV r (gt l i).iv,g⟩:U Ln)=x:=by rw [← hx,← hg]; rfl
  obtain ⟨qx,hqx⟩:∃ q,bq (lxs (gt l i).f) r=q:=⟨_,rfl⟩
  obtain ⟨qy,hqy⟩:∃ q,bq (lys (gt l i).f) r=q:=⟨_,rfl⟩
  have hge:(⟨aq qx.c0 p.x,qx.c1,aq qy.c0 p.y,qy.c1⟩:Ln)=g:=by rw [← hg,← hqx,← hqy]; rfl
  rw [hqx] at c3 c5
  rw [hqy] at c4 c6
  refine eZ mixed [dv _,dv _,dv _,dv _,dv (vN (gt l i).f),dv (vD (lxs (gt l i).f)),dw (vQ r) [1],dv (vD qx),dv _,dv _,dv _,dv _,dv (vN (gt l i).f),dv (vD (lys (gt l i).f)),dw (vQ r) [1],dv (vD qy),⟨.nd (.one 16 fun x=>∃ b,x=ptr b 0),[3]⟩,⟨.nd (.one 17 fun x=>∃ b,x=ptr b 0),[4]⟩,dw undef [3],dw undef [4]]
   [⟨_,[]⟩,⟨_,[]⟩,⟨_,[]⟩,⟨.emp,[(16,.one 16 fun x=>.blk (bu x) (cD default) 72),(18,.one 16 fun x=>.blk (bu x) (cD qx) 72)]⟩,⟨.emp,[(17,.one 17 fun x=>.blk (bu x) (cD default) 72),(19,.one 17 fun x=>.blk (bu x) (cD qy) 72)]⟩] h rfl (by kernel_rfl)
   ⟨oA obA,oA obA,oA obA,oA obA,oA obA,oA fun _=>fD (dZ Tryz.call104 rfl c1),oA obA,oA fun _=>fD (dZ Tryz.call103 rfl c3),oA obA,oA obA,oA obA,oA obA,oA obA,oA fun _=>fD (dZ Tryz.call105 rfl c2),oA obA,oA fun _=>fD (dZ Tryz.call103 rfl c4),fun _ _=>i0 3 rfl (fun _=>rfl),fun _ _=>i0 4 rfl (fun _=>rfl),fun ξ hφ=>iZ (u:=vD qx) 3 (hφ 16 rfl) rfl rfl rfl rfl rfl rfl rfl,fun ξ hφ=>iZ (u:=vD qy) 4 (hφ 17 rfl) rfl rfl rfl rfl rfl rfl rfl,trivial⟩ ?_
  clear h ac wo; intro ξ ac wo hφ h
  obtain ⟨b9,hb9⟩:∃ b,ξ 16=ptr b 0:=hφ 16
  obtain ⟨b10,hb10⟩:∃ b,ξ 17=ptr b 0:=hφ 17
  replace h:St w0 80 [(0,lv),(4,ptr b4 0),(5,ptr b5 0),(7,sv),(8,iN i),(9,ξ 16),(10,ξ 17)] [.row (α:=U Ln) 165 sv ((l.take i).map (mvU r p)),.blk b4 (cQ r) 29,.blk b5 (cPt p) 39,.blk (bu (ξ 16)) (cD qx) 72,.blk (bu (ξ 17)) (cD qy) 72] ac wo:=h.sub ⟨rfl,rfl,rfl,rfl,rfl,rfl,rfl,trivial⟩
  rw [hb9,hb10] at h
  clear hb9 hb10 hφ ξ
  refine gz h <| (W) ?_; clear h ac wo; intro ac wo h
  replace h:=h.emps 1
  refine eZ mixed [dv _,dw (vQ qx.c0) [3],dv _,dw (vQ p.x) [2],dv (vQ (aq qx.c0 p.x)),dv _,dw (vQ qx.c1) [3],dv _,dw (vQ qy.c0) [4],dv _,dw (vQ p.y) [2],dv (vQ (aq qy.c0 p.y)),dv _,dw (vQ qy.c1) [4],dv (vN g),⟨.nd (.one 15 fun x=>∃ b,x=ptr b 0),[5]⟩,dw undef [5]]
   [⟨_,[]⟩,⟨_,[]⟩,⟨_,[]⟩,⟨_,[]⟩,⟨_,[]⟩,⟨.emp,[(15,.one 15 fun x=>.blk (bu x) (cN default) 163),(16,.one 15 fun x=>.blk (bu x) (cN g) 163)]⟩] h rfl (by kernel_rfl)
   ⟨oA obA,oA obA,oA obA,oA obA,oA fun _=>fD (dZ Tryz.call106 rfl c5),oA obA,oA obA,oA obA,oA obA,oA obA,oA obA,oA fun _=>fD (dZ Tryz.call106 rfl c6),oA obA,oA obA,(by rw [← hge]; exact oA fun _=>aQ (bK w7 rfl rfl rfl)),fun _ _=>i0 5 rfl (fun _=>rfl),fun ξ hφ=>iZ (u:=vN g) 5 (hφ 15 rfl) rfl rfl rfl rfl rfl rfl rfl,trivial⟩ ?_
  clear h ac wo; intro ξ ac wo hφ h
  obtain ⟨b11,hb11⟩:∃ b,ξ 15=ptr b 0:=hφ 15
  replace h:St w0 80 [(0,lv),(4,ptr b4 0),(5,ptr b5 0),(7,sv),(8,iN i),(11,ξ 15)] [.row (α:=U Ln) 165 sv ((l.take i).map (mvU r p)),.blk b4 (cQ r) 29,.blk b5 (cPt p) 39,.blk (bu (ξ 15)) (cN g) 163] ac wo:=(h.pick [0,1,2,5] (by decide)).sub ⟨rfl,rfl,rfl,rfl,rfl,rfl,trivial⟩
  rw [hb11] at h
  clear hb11 hφ ξ
  refine gz h <| (W) ?_; clear h ac wo; intro ac wo h
  replace h:=h.emps 2
  obtain ⟨iv,hiv⟩:∃ v,(gt l i).iv=v:=⟨_,rfl⟩
  obtain ⟨iw,hiw⟩:∃ v,shV r iv=v:=⟨_,rfl⟩
  have zi:All (SzV 30) [iv]:=All.cons (by rw [← hiv]; exact z.1) All.nil
  refine eZ mixed [dv _,dv _,dv _,dv _,dv (vV (gt l i).iv),⟨.nd (.one 5 fun v=>NN v 1),[4]⟩,dw (vQ r) [1],⟨.nd (.con True),[5,4]⟩,⟨.nd (.two 8 7 fun a b=>a=b),[]⟩]
   [⟨_,[]⟩,⟨_,[]⟩,⟨_,[]⟩,⟨_,[]⟩,⟨.emp,[(5,.one 5 fun v=>.row (α:=Iv) 74 v [(gt l i).iv])]⟩,⟨.emp,[(7,.one 7 fun v=>.row (α:=Iv) 74 v [iw])]⟩] h rfl (by kernel_rfl)
   ⟨oA obA,oA obA,oA obA,oA obA,oA obA,fun _ _=>l6 4 (gt l i).iv lL rfl rfl,oA obA,
    fun ξ _=>oB (B:=fun x=>[.row (α:=Iv) 74 x [iw],.row (α:=Iv) 74 (ξ 5) [(gt l i).iv]]) [.emp,.row (α:=Iv) 74 (ξ 5) [(gt l i).iv]] rfl (fun v _=>by simp only [dg,bA] <;> rfl) (fun _ _=>trivial) (s_empR (s_row (dH Tryz.call107 rfl) (fun w_ hB_ hS_=>by rw [hiv] at hS_; have:=wC [iv] (ξ 5) r (by simp) zi zq w_ (row_view hS_ 0 rfl); rw [List.map_singleton,hiw] at this; exact this))),
    fun _ _=>pm (j:=7) (by decide) rfl,trivial⟩ ?_
  clear h ac wo; intro ξ ac wo hφ h
  replace h:St w0 80 [(0,lv),(4,ptr b4 0),(5,ptr b5 0),(7,sv),(8,iN i),(11,ptr b11 0),(12,ξ 8)] [.row (α:=U Ln) 165 sv ((l.take i).map (mvU r p)),.blk b4 (cQ r) 29,.blk b5 (cPt p) 39,.blk b11 (cN g) 163,.row (α:=Iv) 74 (ξ 7) [iw]] ac wo:=(h.pick [0,1,2,3,5] (by decide)).sub ⟨rfl,rfl,rfl,rfl,rfl,rfl,rfl,trivial⟩
  rw [show ξ 8=ξ 7 from hφ 8] at h
  generalize ξ 7=dv1 at h; clear hφ ξ
  refine gz h <| (W) ?_; clear h ac wo; intro ac wo h
  have hxe2:(⟨gt [iw] 0,g⟩:U Ln)=x:=by rw [← hxe,hiv,hiw]; rfl
  obtain ⟨o,ho⟩:∃ o,(l.take i).map (mvU r p)=o:=⟨_,rfl⟩
  have hol:o.length≤i:=by rw [← ho,List.length_map,List.length_take]; omega
  rw [ho] at h
  refine wp_loop_ghost (fun n_ a_ w_=>∃ (k:Nat) (sv:Value),(1 - k < n_)∧(k≤1)∧St w0 80 [(0,lv),(4,ptr b4 0),(5,ptr b5 0),(7,sv),(8,iN i),(11,ptr b11 0),(12,dv1),(13,iN k)] [.row (α:=U Ln) 165 sv (o++List.replicate k x),.blk b4 (cQ r) 29,.blk b5 (cPt p) 39,.blk b11 (cN g) 163,.row (α:=Iv) 74 dv1 [iw]] a_ w_) 3 ⟨0,sv,by omega,by omega,?_⟩ ?_
  · rw [List.replicate_zero,List.append_nil]; exact h.re [0,1,2,3,4]
  clear h ac wo; rintro n2 ac wo ⟨k,sv2,hm2,hk,h⟩
  obtain ⟨m2,rfl⟩:∃ m,n2=m+1:=⟨n2 - 1,by omega⟩
  refine gz h <| (ai) ?_ ?_ <;> clear h ac wo <;> intro ac wo h hc2
  ·
   obtain rfl:k=0:=by have:=of_decide_eq_true hc2; rw [show [iw].length=1 from rfl] at this; omega
   rw [List.replicate_zero,List.append_nil] at h
   have hnn:=(row_view h.sep 4 rfl).nn (show 0 < [iw].length by simp)
   refine gz h <| (W) ?_; clear h ac wo; intro ac wo h
   replace h:=h.emps 1
   refine eZ mixed [dv _,dv _,dv _,dv _,dw (vV (gt [iw] 0)) [4],dw (vN g) [3],dv (vUN x),⟨.nd (.one 7 fun v=>NN v 1),[5]⟩,⟨.nd (.con True),[0,5]⟩,⟨.nd (.two 9 8 fun a b=>a=b),[]⟩]
    [⟨.row (α:=U Ln) 165 sv2 o,[(8,.one 8 fun v=>.row (α:=U Ln) 165 v (o++[x]))]⟩,⟨_,[]⟩,⟨_,[]⟩,⟨_,[]⟩,⟨_,[]⟩,⟨.emp,[(7,.one 7 fun v=>.row (α:=U Ln) 165 v [x])]⟩] h rfl (by kernel_rfl)
    ⟨oA obA,oA obA,oA obA,oA obA,oA obA,oA obA,(by rw [← hxe2]; exact oA fun _=>aQ (bK uC rfl rfl rfl)),fun _ _=>l6 5 x lS rfl rfl,fun _ _=>wH (j:=7) 0 5 lS rfl rfl (by omega) rfl (fun v=>by simp only [dg,bA] <;> rfl),fun _ _=>pm (j:=8) (by decide) rfl,trivial⟩ ?_
   clear h ac wo; intro ξ ac wo hφ h
   replace h:St w0 80 [(0,lv),(4,ptr b4 0),(5,ptr b5 0),(7,ξ 9),(8,iN i),(11,ptr b11 0),(12,dv1),(13,iN 0)] [.row (α:=U Ln) 165 (ξ 8) (o++[x]),.blk b4 (cQ r) 29,.blk b5 (cPt p) 39,.blk b11 (cN g) 163,.row (α:=Iv) 74 dv1 [iw]] ac wo:=(h.pick [0,1,2,3,4] (by decide)).sub ⟨rfl,rfl,rfl,rfl,rfl,rfl,rfl,rfl,trivial⟩
   rw [show ξ 9=ξ 8 from hφ 9] at h
   generalize ξ 8=s3 at h; clear hφ ξ
   refine gz h <| (W) ?_; clear h ac wo; intro ac wo h
   exact aO ⟨m2,by omega,1,s3,by omega,by omega,h.re [0,1,2,3,4]⟩
  ·
   obtain rfl:k=1:=by have:=of_decide_eq_false hc2; rw [show [iw].length=1 from rfl] at this; omega
   rw [show o++List.replicate 1 x=(l.take (i+1)).map (mvU r p) by rw [← lx hd1,List.map_append,ho,← hx]; rfl] at h
   refine gz h <| (W) ?_; clear h ac wo; intro ac wo h
   exact aO ⟨m1,by omega,i+1,sv2,by omega,by omega,h.re [0,1,2]⟩
 ·
  have hd1:=of_decide_eq_false hc1
  obtain rfl:i=l.length:=by omega
  rw [List.take_length] at h
  have hlm:(l.map (mvU r p)).length < 20:=by rw [List.length_map]; omega
  refine gz h <| (W) ?_; clear h ac wo; intro ac wo h
  refine ux (xs:=(aU (l.map (mvU r p))).1) h (dH Tryz.call108 rfl) (fun w_ hB_ hS_=>ls (l.map (mvU r p)) sv hlm zr w_ (row_view hS_ 0 rfl)) rfl ?_; clear h ac wo; intro s2 ac wo _ h
  refine gz h <| (W) ?_; clear h ac wo; intro ac wo h
  exact (rt h) (h.retR 0 rfl trivial)
end Go.Sx
namespace Go.Sx
open Go Go.RowKit Go.Proofs
set_option maxRecDepth 100000
set_option maxHeartbeats 40000000
attribute [local irreducible] Code.wp wpList Rd Step ObS Ent
attribute [local irreducible] ao aL ah au ax bN an aP
structure XI where
 neg:Bool
 b:ByteArray
structure XQ where
 n:XI
 d:XI
def cXI (x:XI):List Value:=[.bool x.neg,.string x.b]
def vXI (x:XI):Value:=.agg (cXI x).toArray
def cXQ (x:XQ):List Value:=cXI x.n++cXI x.d
def vXQ (x:XQ):Value:=.agg (cXQ x).toArray
instance yN2_9 (x:XI):Cel (vXI x) (cXI x):=⟨rfl⟩
instance yN2_10 (x:XI):Dc (cXI x) (vXI x):=⟨rfl⟩
instance yN2_11 (x:XQ):Cel (vXQ x) (cXQ x):=⟨rfl⟩
instance yN2_12 (x:XQ):Dc (cXQ x) (vXQ x):=⟨rfl⟩
structure Bad (b:ByteArray):Prop where
 pos:0 < b.size
 z:(b[0]'pos).toNat=0
section
variable {P:Program} {w0:World} {F:List (Nat×Value)}
theorem r_eqlE {x y:Operand} {t tt:TypeId} {b:ByteArray} (hx:ev F x=some (.string b)) (hy:ev F y=some (.string ⟨#[]⟩)) (hb:Bad b):Rd P w0 F [] (.binOp .eql t x y tt) (.bool false):=by
 have:=r_eqlS (P:=P) (w0:=w0) (t:=t) (tt:=tt) hx hy
 rwa [decide_eq_false (fun e=>by have:=hb.pos; rw [e] at this; exact absurd this (by decide))] at this
theorem r_neqE {x y:Operand} {t tt:TypeId} {b:ByteArray} (hx:ev F x=some (.string b)) (hy:ev F y=some (.string ⟨#[]⟩)) (hb:Bad b):Rd P w0 F [] (.binOp .neq t x y tt) (.bool true):=by
 have:=r_neqS (P:=P) (w0:=w0) (t:=t) (tt:=tt) hx hy
 rwa [decide_eq_false (fun e=>by have:=hb.pos; rw [e] at this; exact absurd this (by decide))] at this
theorem r_indexE {x ix:Operand} {t:TypeId} {b:ByteArray} {k:IntKind} (hu:∀ w,(underlying t).run P w=.ok .string w) (hx:ev F x=some (.string b)) (hi:ev F ix=some (.int k 0)) (hb:Bad b):Rd P w0 F [] (.index t x ix) (.int .u8 0):=by
 have:=ow (P:=P) (w0:=w0) (i:=0) hu hx hi hb.pos
 rwa [hb.z] at this
end
theorem abb (x:XI) (hb:Bad x.b) (w0:World):Calls Tryz.prog 94 #[vXI x] w0 (dE w0 (.int .i64 5) True):=by
 refine enter (N:=21) (args:=[vXI x]) Tryz.func94 rfl rfl ?_; intro ac h
 refine gz h <| (xb) fun b1=>(xo (hs:=by exact r_eqlE rfl rfl hb)) <| (xg (hs:=by exact fun hg=>(Rd.of_nil (r_neqE (f7 rfl hg) rfl hb)).step)) <| (xg (hs:=by exact fun hg=>(Rd.of_nil (r_indexE Tryz.runUnderlying9 (f7 rfl hg) rfl hb)).step)) <| (ai) ?_ ?_ <;> clear h ac <;> intro ac wo h hc1
 · refine gz h <| (W) ?_; clear h ac wo; intro ac wo h
   exact (rt h) (h.retP rfl trivial)
 · exfalso; simp at hc1
section
theorem sh25X:Sh Tryz.prog 27 XI vXI:=⟨trivial⟩
attribute [local instance 2000] sh25X
theorem badN_ct (x:XQ) (hb:Bad x.n.b) (w0:World):Calls Tryz.prog 15 #[vXQ x] w0 (dE w0 (.int .i64 5) True):=by
 refine enter (N:=31) (args:=[vXQ x]) Tryz.func15 rfl rfl ?_; intro ac h
 refine gz h <| (xb) fun b1=>(xk (abb x.n hb)) <| (xg (v:=.int .i64 0) (hs:=by exact fun hg=>False.elim (Bool.noConfusion (show false=true from hg)))) <| (ai) ?_ ?_ <;> clear h ac <;> intro ac wo h hc1
 · refine gz h <| (W) ?_; clear h ac wo; intro ac wo h
   exact (rt h) (h.retP rfl trivial)
 · exfalso; simp at hc1
theorem badD_ct (a:GI) (za:SzI 16 a) (y:XI) (hb:Bad y.b) (w0:World):Calls Tryz.prog 15 #[vXQ ⟨⟨a.neg,bs a.mag⟩,y⟩] w0 (dE w0 (.int .i64 5) True):=by
 refine enter (N:=31) (args:=[vXQ ⟨⟨a.neg,bs a.mag⟩,y⟩]) Tryz.func15 rfl rfl ?_; intro ac h
 have c1:∀ w0,Calls Tryz.prog 94 #[vXI ⟨a.neg,bs a.mag⟩] w0 (dE w0 (.int .i64 (dD a)) True):=fun w0=>jd a za w0
 refine gz h <| (xb) fun b1=>(xk c1) <| (xg (hs:=by exact fun hg=>gk enA (kk (abb y hb)))) <| (ai) ?_ ?_ <;> clear h ac <;> intro ac wo h hc1
 · refine gz h <| (W) ?_; clear h ac wo; intro ac wo h
   exact (rt h) (h.retP rfl trivial)
 · exfalso; simp at hc1
end
end Go.Sx
namespace Go.Sx
open Go Go.RowKit Go.Proofs
theorem rk:∀ {l:List UInt8} {c:UInt8},c≠0→0 < sw (l++[c])
 | [],c,h=>by
  have h2:c.toNat≠0:=fun e=>h (by rw [← UInt8.ofNat_toNat (x:=c),e]; rfl)
  show 0 < c.toNat+256*sw []
  omega
 | b::l,c,h=>by
  have:=rk (l:=l) h
  show 0 < b.toNat+256*sw (l++[c])
  omega
theorem zD:∀ (l:List UInt8) (c:UInt8),c≠0→le (sw (l++[c]))=l++[c]
 | [],c,h=>by
  have h0:=rk (l:=[]) h
  have h2:=c.toNat_lt
  have e:sw ([]++[c])=c.toNat:=by show c.toNat+256*0=_; omega
  rw [e] at h0 ⊢
  rw [kA h0,Nat.mod_eq_of_lt h2,Nat.div_eq_of_lt h2,pq,UInt8.ofNat_toNat]; rfl
 | b::l,c,h=>by
  have h0:=rk (l:=b::l) h
  have h2:=b.toNat_lt
  have e:sw ((b::l)++[c])=b.toNat+256*sw (l++[c]):=rfl
  rw [kA h0,e]
  rw [show (b.toNat+256*sw (l++[c])) % 256=b.toNat by omega,show (b.toNat+256*sw (l++[c])) / 256=sw (l++[c]) by omega,zD l c h,UInt8.ofNat_toNat]; rfl
theorem vP (b:ByteArray):(∃ m,b=bs m)∨Bad b:=by
 obtain ⟨⟨l⟩⟩:=b
 match l with
 | []=>exact .inl ⟨0,rfl⟩
 | c::r =>
  by_cases h:c=0
  · refine .inr ⟨by show 0 < (c::r).toArray.size; simp,?_⟩
    show c.toNat=0
    rw [h]; rfl
  · refine .inl ⟨sw (r.reverse++[c]),?_⟩
    unfold bs
    rw [zD _ _ h]
    simp
def qX (a:GQ):XQ:=⟨⟨a.num.neg,bs a.num.mag⟩,⟨a.den.neg,bs a.den.mag⟩⟩
theorem xq_cases (x:XQ) (hs:x.n.b.size*2 ^ 16≤70368744177664):(∃ a:GQ,x=qX a)∨∀ w0,Calls Tryz.prog 15 #[vXQ x] w0 (dE w0 (.int .i64 5) True):=by
 obtain ⟨⟨s,b⟩,⟨t,d⟩⟩:=x
 rcases vP b with ⟨m,rfl⟩ | hb
 · rcases vP d with ⟨k,rfl⟩ | hd
   · exact .inl ⟨⟨⟨s,m⟩,⟨t,k⟩⟩,rfl⟩
   · refine .inr fun w0=>badD_ct ⟨s,m⟩ ?_ ⟨t,d⟩ hd w0
     unfold SzI SzB
     rw [← em]
     exact hs
 · exact .inr fun w0=>badN_ct ⟨⟨s,b⟩,⟨t,d⟩⟩ hb w0
end Go.Sx
namespace Go.Sx
theorem pA {a:GI} (h:dD a=0):IOk a:=by
 intro e
 cases hn:a.neg with
 | false=>rfl
 | true =>
  exfalso
  unfold dD at h
  rw [decide_eq_true e,hn] at h
  have h5:(5:Int)=0:=h
  exact absurd h5 (by decide)
theorem tY {a:GQ} (h:cP a=0):QOk a:=by
 unfold cP at h
 have h1:dD a.num=0:=Classical.byContradiction fun hn=>by
  rw [show (dD a.num != 0)=true from bne_iff_ne.2 hn,Bool.true_or,cond_true] at h
  exact absurd h (by decide)
 have h2:dD a.den=0:=Classical.byContradiction fun hn=>by
  rw [show (dD a.den != 0)=true from bne_iff_ne.2 hn,Bool.or_true,cond_true] at h
  exact absurd h (by decide)
 rw [h1,h2,show (((0:Int) != 0) || ((0:Int) != 0))=false from rfl,cond_false] at h
 have i1:=pA h1
 have i2:=pA h2
 by_cases e:a.den=z0
 · exact ⟨i1,.inl e,by unfold gy; rw [if_pos e]; exact Nat.coprime_one_right _⟩
 · rw [decide_eq_false (show ¬ a.den=(⟨false,0⟩:GI) from e),cond_false] at h
   cases hc:decide (dx a.den rational_one≤0) with
   | true=>rw [hc,Bool.true_or,cond_true] at h; have h5:(5:Int)=0:=h; exact absurd h5 (by decide)
   | false =>
    cases hg:decide (aW a.num a.den=rational_one) with
    | false=>rw [hc,hg] at h; have h5:(5:Int)=0:=h; exact absurd h5 (by decide)
    | true =>
     have g1:=of_decide_eq_false hc
     have g2:=of_decide_eq_true hg
     rw [mg (b:=rational_one) i2 (kn 1),rj] at g1
     have hv:1 < dN a.den:=by
      unfold icmp at g1
      split at g1
      · omega
      · split at g1
        · omega
        · omega
     have hd:a.den.neg=false∧1 < a.den.mag:=by
      unfold dN at hv
      cases hn:a.den.neg with
      | false=>rw [hn] at hv; exact ⟨rfl,by have:(1:Int) < (a.den.mag:Int):=hv; omega⟩
      | true=>rw [hn] at hv; exfalso; have:(1:Int) < -(a.den.mag:Int):=hv; omega
     refine ⟨i1,.inr hd,?_⟩
     unfold gy
     rw [if_neg e]
     have k:=congrArg dN g2
     rw [rj] at k
     unfold aW at k
     have k2:((Nat.gcd a.num.mag a.den.mag:Nat):Int)=1:=k
     exact (by exact_mod_cast k2:Nat.gcd a.num.mag a.den.mag=1)
end Go.Sx
namespace Go.Sx
section
variable [K:Key]
theorem kL (i:Iv):kB (aG i)=2*tk i.hi+(bif !i.openHi then 1 else 0):=by rw [pl]; rfl
omit K in
end
end Go.Sx
namespace Go.Sx
section
variable [K:Key]
omit K in
def Cvx (G:Nat→Prop):Prop:=∀ a b c,a≤b→b≤c→G a→G c→G b
def Splt (i:Iv) (G:Nat→Prop):Prop:=∃ a z b,a < z∧z < b∧inU i a∧inU i b∧¬ G a∧G z∧¬ G b
theorem t6 {i:Iv} (h:Wv i):Plc (eW i):=by
 rcases gL i with ⟨_,e⟩ | ⟨_,e⟩
 · exact .inl ⟨_,h.1.1,e⟩
 · exact .inr ⟨_,e⟩
theorem plc_lst {i:Iv} (h:Wv i):Plc (kB (aG i)):=by
 rw [kL]
 cases i.openHi
 · exact .inr ⟨_,rfl⟩
 · exact .inl ⟨_,h.1.2,rfl⟩
theorem zJ {a b:Iv} {r:List Iv} (hp:Cn (a::b::r)):Plc (kB (aG a))∧eW a < kB (aG a)∧kB (aG a) < eW b∧¬ inP (a::b::r) (kB (aG a)):=by
 obtain ⟨hb,sa,wa⟩:=hp.tail
 have s1:=sa b (List.mem_cons_self ..)
 have la:=wa.le
 have a1:=l9 a
 have b0:=lE b
 refine ⟨plc_lst wa,by omega,by omega,fun h=>?_⟩
 rcases dY.1 h with h | h
 · have:=(iq.1 h).2; omega
 · have:=hp.behind h; omega
theorem ui {a:Iv} {r:List Iv} (hp:Cn (a::r)):inP (a::r) (eW a):=dY.2 (.inl (iq.2 (nN hp.tail.2.2)))
theorem uj {i:Iv} {a b c:Nat} (h1:a≤b) (h2:b≤c) (ha:inU i a) (hc:inU i c):inU i b:=by unfold inU at *; omega
theorem parts2 {p:List Iv} {i:Iv} {G:Nat→Prop} (hG:Cvx G) (hp:Cn p) (h:∀ q,Plc q→(inP p q↔inU i q∧¬ G q)):p.length≤2∧(p.length=2→Splt i G):=by
 match p,hp,h with
 | [],_,_=>exact ⟨Nat.zero_le _,fun e=>by cases e⟩
 | [_],_,_=>exact ⟨by simp,fun e=>by simp at e⟩
 | a::b::r,hp,h =>
  obtain ⟨g1,g2,g3,g4⟩:=zJ hp
  have wa:=hp.tail.2.2
  have hb:=hp.tail.1
  have wb:=hb.tail.2.2
  have ia:=(h _ (t6 wa)).1 (ui hp)
  have ib:=(h _ (t6 wb)).1 (dY.2 (.inr (ui hb)))
  have hz:G (kB (aG a)):=Classical.byContradiction fun hn=>g4 ((h _ g1).2 ⟨uj (Nat.le_of_lt g2) (Nat.le_of_lt g3) ia.1 ib.1,hn⟩)
  refine ⟨?_,fun _=>⟨_,_,_,g2,g3,ia.1,ib.1,ia.2,hz,ib.2⟩⟩
  match r,hp,hb,h with
  | [],_,_,_=>exact Nat.le_refl _
  | c::r,hp,hb,h =>
   exfalso
   obtain ⟨k1,k2,k3,k4⟩:=zJ hb
   have wc:=hb.tail.1.tail.2.2
   have ic:=(h _ (t6 wc)).1 (dY.2 (.inr (dY.2 (.inr (ui hb.tail.1)))))
   have hz2:G (kB (aG b)):=Classical.byContradiction fun hn=>by
    have:=(h _ k1).2 ⟨uj (Nat.le_of_lt k2) (Nat.le_of_lt k3) ib.1 ic.1,hn⟩
    rcases dY.1 this with h | h
    · have:=(iq.1 h).2
      have a1:=l9 a
      omega
    · exact k4 h
   exact ib.2 (hG _ _ _ (Nat.le_of_lt g3) (Nat.le_of_lt k2) hz hz2)
theorem splt_one {i j:Iv} {G:Nat→Prop} (hG:Cvx G) (hd:Dj i j) (hi:Splt i G) (hj:Splt j G):False:=by
 obtain ⟨a,z,b,h1,h2,h3,h4,h5,h6,h7⟩:=hi
 obtain ⟨a',z',b',k1,k2,k3,k4,k5,k6,k7⟩:=hj
 unfold Dj at hd
 unfold inU at h3 h4 k3 k4
 rcases hd with hd | hd
 · exact h7 (hG z b z' (by omega) (by omega) h6 k6)
 · exact k7 (hG z' b' z (by omega) (by omega) k6 h6)
theorem su {f:U Ln→List (U Ln)} {G:Nat→Prop} (hG:Cvx G):∀ {l:List (U Ln)},(l.Pairwise fun a b=>Dj a.iv b.iv)→(∀ u∈l,(f u).length≤2∧((f u).length=2→Splt u.iv G))→(l.flatMap f).length≤l.length+1∧((∀ u∈l,¬ Splt u.iv G)→(l.flatMap f).length≤l.length)
 | [],_,_=>⟨by simp,fun _=>by simp⟩
 | u::l,hp,h=>by
  obtain ⟨p1,p2⟩:=List.pairwise_cons.1 hp
  obtain ⟨s1,s2⟩:=su hG p2 fun v hv=>h v (List.mem_cons_of_mem _ hv)
  obtain ⟨u1,u2⟩:=h u (List.mem_cons_self ..)
  rw [List.flatMap_cons,List.length_append,List.length_cons]
  refine ⟨?_,fun hn=>?_⟩
  · by_cases e:Splt u.iv G
    · have:=s2 fun v hv hs=>splt_one hG (p1 v hv) e hs
      omega
    · have:(f u).length≠2:=fun h2=>e (u2 h2)
      omega
  · have:(f u).length≠2:=fun h2=>hn u (List.mem_cons_self ..) (u2 h2)
    have:=s2 fun v hv=>hn v (List.mem_cons_of_mem _ hv)
    omega
theorem rsI_part {l:List (U Ln)} {d:List Iv} {G:Nat→Prop} (hG:Cvx G) (hl:NFl l) (hd:Cn d) (h:∀ u∈l,∀ x,Plc x→inU u.iv x→(inP d x↔¬ G x)):(rsI l d).length≤l.length+1:=by
 refine (su hG hl.dj fun u hu=>?_).1
 rw [List.length_map]
 obtain ⟨c,p⟩:=mM (ju (hl.wv u hu)) hd.wv
 refine parts2 hG c fun q hq=>(p q).trans ⟨fun ⟨a,b⟩=>⟨jS.1 a,(h u hu q hq (jS.1 a)).1 b⟩,fun ⟨a,b⟩=>⟨jS.2 a,(h u hu q hq a).2 b⟩⟩
variable [KeyZ] [KeyB]
theorem mov_len (c:Crq) (s:List Stq) (p q:Nat) [KeyG p q]:(xh c s p q).length≤8:=by
 obtain ⟨_,h,hl⟩:=tK c s
 unfold xh
 cases decide (p % 3=0) with
 | true=>rw [cond_true]; omega
 | false =>
  rw [cond_false]
  have hg:Wv (pW p q):=zI
  obtain ⟨c1,p1⟩:=vH h.nf.wv
  obtain ⟨c2,p2⟩:=mB c1.wv (ju hg)
  obtain ⟨_,_,_,h4⟩:=q9 h.nf h.ok c2.wv
  have:=rsI_part (l:=fF c s) (G:=inU (pW p q)) (fun a b c h1 h2 ha hc=>uj h1 h2 ha hc) h.nf c2 fun u hu x hx hi=>(p2 x).trans ⟨fun ⟨a,b⟩ g=>b (jS.2 g),fun hn=>⟨(p1 x).2 ⟨u,hu,hi⟩,fun g=>hn (jS.1 g)⟩⟩
  have:=h4.len
  omega
end
end Go.Sx
namespace Go.Sx
section
variable {α:Type} [Inhabited α]
def mV (σ:GR→GR) (i:Iv):Iv:=⟨σ i.lo,σ i.hi,i.openLo,i.openHi⟩
def mU (σ:GR→GR) (φ:α→α) (x:U α):U α:=⟨mV σ x.iv,φ x.f⟩
def Pu (P:GR→Prop) (D:α→Prop) (x:U α):Prop:=(P x.iv.lo∧P x.iv.hi)∧D x.f
theorem jh {β γ:Type} [Inhabited β] [Inhabited γ] (m:β→γ) {L:List β} {x:Nat} (h:x < L.length):gt (L.map m) x=m (gt L x):=by
 rw [gF h,gF (by rw [List.length_map]; exact h),List.getElem_map]
structure Mv (P:GR→Prop) (D:α→Prop) (eqf:α→α→Bool) (same:α→α→GR→Bool) (red:α→GR→α) (σ:GR→GR) (φ:α→α):Prop where
 inj:∀ a b,P a→P b→(σ a=σ b↔a=b)
 sm:∀ f g t,D f→D g→P t→same (φ f) (φ g) (σ t)=same f g t
 rd:∀ f t,D f→P t→red (φ f) (σ t)=φ (red f t)
 rD:∀ f t,D f→P t→D (red f t)
 eq:∀ f g,D f→D g→eqf (φ f) (φ g)=eqf f g
variable {P:GR→Prop} {D:α→Prop} {eqf:α→α→Bool} {same:α→α→GR→Bool} {red:α→GR→α} {σ:GR→GR} {φ:α→α}
omit [Inhabited α] in
theorem Mv.dec (M:Mv P D eqf same red σ φ) {a b:GR} (ha:P a) (hb:P b):decide (σ a=σ b)=decide (a=b):=decide_eq_decide.2 (M.inj a b ha hb)
omit [Inhabited α] in
theorem Mv.inst (M:Mv P D eqf same red σ φ) {i:Iv} (h:P i.lo∧P i.hi):aM (mV σ i)=aM i:=by
 unfold aM; exact M.dec h.1 h.2
theorem ph {L:List (U α)} (hL:∀ x∈L,Pu P D x) {x:Nat} (h:x < L.length):Pu P D (gt L x):=hL _ (by rw [gF h]; exact List.getElem_mem _)
theorem Mv.held (M:Mv P D eqf same red σ φ) {out:List (U α)} (ho:∀ x∈out,Pu P D x) {t:GR} (ht:P t):jm (out.map (mU σ φ)) (σ t)=jm out t:=by
 unfold jm
 rw [List.length_map]
 by_cases h:0 < out.length
 · rw [jh _ (by omega)]
   show ((_ && decide (σ (gt out (out.length - 1)).iv.hi=σ t)) && _)=_
   rw [M.dec (ph ho (by omega)).1.2 ht]
   rfl
 · rw [decide_eq_false (by omega:¬ ((out.length:Nat):Int)>0)]; rfl
theorem Mv.bef (M:Mv P D eqf same red σ φ) {L out:List (U α)} (hL:∀ x∈L,Pu P D x) (ho:∀ x∈out,Pu P D x) {x:Nat} (hx:x < L.length):tD (L.map (mU σ φ)) (out.map (mU σ φ)) x=tD L out x:=by
 unfold tD
 rw [List.length_map,jh _ hx]
 by_cases h:0 < out.length
 · have hp:=ph ho (by omega:out.length - 1 < out.length)
   rw [jh _ (by omega)]
   show ((_ && decide (σ (gt out (out.length - 1)).iv.hi=σ (gt L x).iv.lo)) && !(aM (mV σ (gt out (out.length - 1)).iv)))=_
   rw [M.dec hp.1.2 (ph hL hx).1.1,M.inst hp.1]
 · rw [decide_eq_false (by omega:¬ ((out.length:Nat):Int)>0)]; rfl
omit [Inhabited α] in
theorem yJ {out:List (U α)} (ho:∀ x∈out,Pu P D x) {y:U α} (hy:Pu P D y):∀ x∈out++[y],Pu P D x:=fun x hx=>by
 rcases List.mem_append.1 hx with hx | hx
 · exact ho x hx
 · rw [List.mem_singleton.1 hx]; exact hy
omit [Inhabited α] in
theorem pu_set {out:List (U α)} (ho:∀ x∈out,Pu P D x) {i:Nat} {y:U α} (hy:Pu P D y):∀ x∈out.set i y,Pu P D x:=fun x hx=>by
 rcases List.mem_or_eq_of_mem_set hx with hx | rfl
 · exact ho x hx
 · exact hy
theorem Mv.gap (M:Mv P D eqf same red σ φ) {L out:List (U α)} (hL:∀ x∈L,Pu P D x) (ho:∀ x∈out,Pu P D x) {x:Nat} (hx:x < L.length) :
 i4 (L.map (mU σ φ)) (out.map (mU σ φ)) x=(i4 L out x).map (mU σ φ)∧∀ y∈i4 L out x,Pu P D y:=by
 have h1:=ph hL hx
 have h2:=ph hL (by omega:x - 1 < L.length)
 unfold i4
 rw [jh _ hx,jh _ (by omega:x - 1 < L.length)]
 have e:((((decide (((x:Nat):Int)>0)) && (aM ((mU σ φ (gt L (x - 1))).iv))) && (decide (((mU σ φ (gt L (x - 1))).iv).lo=((mU σ φ (gt L x)).iv).lo))) && (!(jm (out.map (mU σ φ)) (((mU σ φ (gt L x)).iv).lo))))
  = ((((decide (((x:Nat):Int)>0)) && (aM ((gt L (x - 1)).iv))) && (decide (((gt L (x - 1)).iv).lo=((gt L x).iv).lo))) && (!(jm out (((gt L x).iv).lo)))):=by
  show ((((decide (((x:Nat):Int)>0)) && (aM (mV σ (gt L (x - 1)).iv))) && (decide (σ ((gt L (x - 1)).iv).lo=σ ((gt L x).iv).lo))) && (!(jm (out.map (mU σ φ)) (σ ((gt L x).iv).lo))))=_
  rw [M.inst h2.1,M.dec h2.1.1 h1.1.1,M.held ho h1.1.1]
 rw [e]
 cases ((((decide (((x:Nat):Int)>0)) && (aM ((gt L (x - 1)).iv))) && (decide (((gt L (x - 1)).iv).lo=((gt L x).iv).lo))) && (!(jm out (((gt L x).iv).lo))))
 · exact ⟨by rw [cond_false,cond_false,List.map_append]; rfl,by rw [cond_false]; exact yJ ho h1⟩
 · exact ⟨by rw [cond_true,cond_true,List.map_append]; rfl,by rw [cond_true]; exact yJ ho h1⟩
theorem Mv.pt (M:Mv P D eqf same red σ φ) {L out:List (U α)} (hL:∀ x∈L,Pu P D x) (ho:∀ x∈out,Pu P D x) {x:Nat} (hx:x < L.length) :
 kF same red (L.map (mU σ φ)) (out.map (mU σ φ)) x=(kF same red L out x).map (mU σ φ)∧∀ y∈kF same red L out x,Pu P D y:=by
 have h1:=ph hL hx
 unfold kF
 rw [jh _ hx,List.length_map]
 have e:(((decide (((x+1:Nat):Int) < ((L.length:Nat):Int))) && (decide (((gt (L.map (mU σ φ)) (x+1)).iv).lo=((mU σ φ (gt L x)).iv).lo))) && (same ((gt (L.map (mU σ φ)) (x+1)).f) ((mU σ φ (gt L x)).f) (((mU σ φ (gt L x)).iv).lo)))
  = (((decide (((x+1:Nat):Int) < ((L.length:Nat):Int))) && (decide (((gt L (x+1)).iv).lo=((gt L x).iv).lo))) && (same ((gt L (x+1)).f) ((gt L x).f) (((gt L x).iv).lo))):=by
  by_cases h:x+1 < L.length
  · have h2:=ph hL h
    rw [jh _ h]
    show ((_ && (decide (σ ((gt L (x+1)).iv).lo=σ ((gt L x).iv).lo))) && (same (φ (gt L (x+1)).f) (φ (gt L x).f) (σ (gt L x).iv.lo)))=_
    rw [M.dec h2.1.1 h1.1.1,M.sm _ _ _ h2.2 h1.2 h1.1.1]
  · rw [decide_eq_false (by omega:¬ ((x+1:Nat):Int) < ((L.length:Nat):Int))]; rfl
 rw [e]
 cases (((decide (((x+1:Nat):Int) < ((L.length:Nat):Int))) && (decide (((gt L (x+1)).iv).lo=((gt L x).iv).lo))) && (same ((gt L (x+1)).f) ((gt L x).f) (((gt L x).iv).lo)))
 · refine ⟨?_,by rw [cond_false]; exact yJ ho ⟨h1.1,M.rD _ _ h1.2 h1.1.1⟩⟩
   rw [cond_false,cond_false,List.map_append]
   show _++[(⟨mV σ (gt L x).iv,red (φ (gt L x).f) (σ (gt L x).iv.lo)⟩:U α)]=_
   rw [M.rd _ _ h1.2 h1.1.1]
   rfl
 · exact ⟨rfl,ho⟩
theorem Mv.step (M:Mv P D eqf same red σ φ) {L out:List (U α)} (hL:∀ x∈L,Pu P D x) (ho:∀ x∈out,Pu P D x) {x:Nat} (hx:x < L.length) :
 dT eqf same red (L.map (mU σ φ)) (out.map (mU σ φ)) x=(dT eqf same red L out x).map (mU σ φ)∧∀ y∈dT eqf same red L out x,Pu P D y:=by
 have h1:=ph hL hx
 obtain ⟨g1,g2⟩:=M.gap hL ho hx
 obtain ⟨p1,p2⟩:=M.pt hL ho hx
 unfold dT
 rw [M.bef hL ho hx,jh _ hx,g1,p1,List.length_map]
 have ei:aM (mU σ φ (gt L x)).iv=aM (gt L x).iv:=M.inst h1.1
 rw [ei]
 cases hb:tD L out x with
 | false =>
  rw [cond_false,cond_false]
  cases (!(aM ((gt L x).iv)))
  · exact ⟨rfl,p2⟩
  · exact ⟨rfl,g2⟩
 | true =>
  obtain ⟨b1,_,_⟩:=jp.1 hb
  have ho1:=ph ho (by omega:out.length - 1 < out.length)
  rw [jh _ (by omega:out.length - 1 < out.length),cond_true,cond_true]
  cases (!(aM ((gt L x).iv)))
  · rw [cond_false,cond_false]
    show (bif (same (φ (gt out (out.length - 1)).f) (φ (gt L x).f) (σ (gt L x).iv.lo)) then _ else _)=_∧_
    rw [M.sm _ _ _ ho1.2 h1.2 h1.1.1]
    cases same (gt out (out.length - 1)).f (gt L x).f (gt L x).iv.lo
    · exact ⟨rfl,p2⟩
    · refine ⟨?_,?_⟩
      · rw [cond_true,cond_true,List.map_set]; rfl
      · rw [cond_true]; exact pu_set ho ho1
  · rw [cond_true,cond_true]
    show (bif ((!(gt out (out.length - 1)).iv.openHi) && (eqf (φ (gt out (out.length - 1)).f) (φ (gt L x).f))) then _ else _)=_∧_
    rw [M.eq _ _ ho1.2 h1.2]
    cases ((!(gt out (out.length - 1)).iv.openHi) && (eqf (gt out (out.length - 1)).f (gt L x).f))
    · exact ⟨rfl,g2⟩
    · refine ⟨?_,?_⟩
      · rw [cond_true,cond_true,List.map_set]; rfl
      · rw [cond_true]; exact pu_set ho ⟨⟨ho1.1.1,h1.1.2⟩,ho1.2⟩
theorem Mv.iter (M:Mv P D eqf same red σ φ) {L:List (U α)} (hL:∀ x∈L,Pu P D x):∀ k,k≤L.length →
 fL (dT eqf same red (L.map (mU σ φ))) [] k=(fL (dT eqf same red L) [] k).map (mU σ φ)∧∀ y∈fL (dT eqf same red L) [] k,Pu P D y
 | 0,_=>⟨rfl,fun _ h=>by cases h⟩
 | k+1,hk=>by
  obtain ⟨e1,e2⟩:=M.iter hL k (by omega)
  have:=M.step hL e2 (by omega:k < L.length)
  show dT eqf same red (L.map (mU σ φ)) (fL (dT eqf same red (L.map (mU σ φ))) [] k) k=(dT eqf same red L (fL (dT eqf same red L) [] k) k).map (mU σ φ)∧_
  rw [e1]
  exact this
omit [Inhabited α] in
theorem Mv.at1 (M:Mv P D eqf same red σ φ) {u:U α} (h:Pu P D u):atU (mU σ φ u)=(atU u).map (mU σ φ)∧∀ y∈atU u,Pu P D y:=by
 unfold atU
 rw [show aM (mU σ φ u).iv=aM u.iv from M.inst h.1]
 have e1:(mU σ φ u).iv.openLo=u.iv.openLo:=rfl
 have e2:(mU σ φ u).iv.openHi=u.iv.openHi:=rfl
 rw [e1,e2]
 obtain ⟨⟨a,b⟩,c⟩:=h
 cases u.iv.openLo <;> cases aM u.iv <;> cases u.iv.openHi <;>
  exact ⟨rfl,fun y hy=>by
   simp only [cond_true,cond_false,List.mem_append,List.mem_cons,List.not_mem_nil,or_false,false_or] at hy <;> first
    | (rcases hy with rfl | rfl | rfl <;> first | exact ⟨⟨a,a⟩,c⟩ | exact ⟨⟨b,b⟩,c⟩ | exact ⟨⟨a,b⟩,c⟩)
    | (rcases hy with rfl | rfl <;> first | exact ⟨⟨a,a⟩,c⟩ | exact ⟨⟨b,b⟩,c⟩ | exact ⟨⟨a,b⟩,c⟩)
    | (rcases hy with rfl <;> first | exact ⟨⟨a,a⟩,c⟩ | exact ⟨⟨b,b⟩,c⟩ | exact ⟨⟨a,b⟩,c⟩)⟩
omit [Inhabited α] in
theorem Mv.ats (M:Mv P D eqf same red σ φ):∀ {n:List (U α)},(∀ x∈n,Pu P D x)→(n.map (mU σ φ)).flatMap atU=(n.flatMap atU).map (mU σ φ)∧∀ y∈n.flatMap atU,Pu P D y
 | [],_=>⟨rfl,fun _ h=>by cases h⟩
 | u::n,h=>by
  obtain ⟨e1,e2⟩:=M.at1 (h u (List.mem_cons_self ..))
  obtain ⟨e3,e4⟩:=M.ats (n:=n) fun x hx=>h x (List.mem_cons_of_mem _ hx)
  refine ⟨?_,fun y hy=>?_⟩
  · rw [List.map_cons,List.flatMap_cons,List.flatMap_cons,List.map_append,e1,e3]
  · rw [List.flatMap_cons] at hy
    rcases List.mem_append.1 hy with hy | hy
    · exact e2 y hy
    · exact e4 y hy
end
section
variable {α β:Type} [Inhabited α] {c:α→α→Int} {c':β→β→Int} {m:α→β} {S:α→Prop}
omit [Inhabited α] in
theorem qE (hc:∀ a b,S a→S b→c' (m a) (m b)=c a b) {x:α} (hx:S x):∀ {r:List α},(∀ y∈r,S y)→fW c' (m x) (r.map m)=(fW c x r).map m∧∀ y∈fW c x r,S y
 | [],_=>⟨rfl,fun y hy=>by rw [List.mem_singleton.1 hy]; exact hx⟩
 | y::q,h=>by
  have hy:=h y (List.mem_cons_self ..)
  obtain ⟨e1,e2⟩:=qE hc hx (r:=q) fun z hz=>h z (List.mem_cons_of_mem _ hz)
  unfold fW
  rw [List.map_cons]
  show (if c' (m x) (m y) < 0 then m y::fW c' (m x) (q.map m) else m x::m y::q.map m)=(if c x y < 0 then y::fW c x q else x::y::q).map m∧∀ z∈(if c x y < 0 then y::fW c x q else x::y::q),S z
  rw [hc x y hx hy]
  by_cases h1:c x y < 0
  · rw [if_pos h1,if_pos h1,e1]
    exact ⟨rfl,fun z hz=>by
     rcases List.mem_cons.1 hz with rfl | hz
     · exact hy
     · exact e2 z hz⟩
  · rw [if_neg h1,if_neg h1]
    exact ⟨rfl,fun z hz=>by
     rcases List.mem_cons.1 hz with rfl | hz
     · exact hx
     · exact h z hz⟩
omit [Inhabited α] in
theorem sQ (hc:∀ a b,S a→S b→c' (m a) (m b)=c a b):∀ {s r:List α},(∀ y∈s,S y)→(∀ y∈r,S y)→mL c' (r.map m) (s.map m)=(mL c r s).map m
 | [],_,_,_=>rfl
 | x::s,r,h,h2=>by
  obtain ⟨e1,e2⟩:=qE hc (h x (List.mem_cons_self ..)) h2
  show mL c' (fW c' (m x) (r.map m)) (s.map m)=(mL c (fW c x r) s).map m
  rw [e1]
  exact sQ hc (fun y hy=>h y (List.mem_cons_of_mem _ hy)) e2
end
theorem mr (t:GR) (h:GQ):bH t h=⟨aq t.p h,t.r,t.neg⟩:=by unfold bH; rfl
theorem uU {h:GQ} {t:GR} (ht:QOk t.p) (hh:QOk h):bH (bH t h) (aE h)=t:=by
 rw [mr t h,mr]
 obtain ⟨a1,a2⟩:=fz ht hh
 obtain ⟨n1,n2⟩:=jL hh
 obtain ⟨b1,b2⟩:=fz a1 n1
 have:aq (aq t.p h) (aE h)=t.p:=dC b1 ht (by rw [b2,a2,n2]; grind)
 rw [show (⟨aq t.p h,t.r,t.neg⟩:GR).p=aq t.p h from rfl,this]
theorem rsh_zero {t:GR} (ht:QOk t.p):bH t zQ=t:=by
 rw [mr]
 obtain ⟨a1,a2⟩:=fz ht fB.1
 rw [show aq t.p zQ=t.p from dC a1 ht (by rw [a2,fB.2]; grind)]
theorem yp {h:GQ} {t:GR} (ht:TOk t) (hh:QOk h):TOk (bH t h):=by
 rw [mr]; exact ⟨(fz ht.1 hh).1,ht.2⟩
theorem rsh_inj {h:GQ} {a b:GR} (ha:QOk a.p) (hb:QOk b.p) (hh:QOk h):bH a h=bH b h↔a=b :=
 ⟨fun e=>by rw [← uU ha hh,e,uU hb hh],fun e=>by rw [e]⟩
theorem tO {h:GQ} {a b:GR} (ha:QOk a.p) (hb:QOk b.p) (hh:QOk h):ao (bH a h) (bH b h)=ao a b:=by
 have e:ak (aq a.p h) (aq b.p h)=ak a.p b.p:=by
  obtain ⟨a1,a2⟩:=fz ha hh
  obtain ⟨b1,b2⟩:=fz hb hh
  obtain ⟨c1,c2⟩:=fT a1 b1
  obtain ⟨d1,d2⟩:=fT ha hb
  exact dC c1 d1 (by rw [c2,d2,a2,b2]; grind)
 have f:∀ t,a8 (bH t h)=a8 t:=fun t=>by rw [mr]; unfold a8; rfl
 unfold ao
 rw [f,f,mr,mr]
 simp only
 rw [e]
def POk (p:Pnt):Prop:=QOk p.x∧QOk p.y
theorem qsh_ok {h:GQ} {q:Qd} (hq:DOk q) (h2:q.c2=zQ) (hh:QOk h):QOk (bq q h).c0∧QOk (bq q h).c1∧aZ (bq q h).c0=aZ q.c0 - aZ h*aZ q.c1∧(bq q h).c1=q.c1:=by
 unfold bq
 obtain ⟨n1,n2⟩:=jL hh
 obtain ⟨e1,e2⟩:=pD hq n1
 obtain ⟨a1,a2⟩:=fz hq.2.2 hq.2.2
 obtain ⟨m1,m2⟩:=eO a1 n1
 obtain ⟨b1,b2⟩:=fz hq.2.1 m1
 refine ⟨e1,b1,?_,dC b1 hq.2.1 ?_⟩
 · show aZ (aH q (aE h))=_
   rw [e2,n2,h2,fB.2]; grind
 · show aZ (aq q.c1 (am (aq q.c2 q.c2) (aE h)))=_
   rw [b2,m2,a2,n2,h2,fB.2]; grind
theorem lxs_is (f:Ln):lxs f=lX f:=rfl
theorem lys_is (f:Ln):lys f=lY f:=rfl
structure MvV (h:GQ) (p:Pnt) (f g:Ln):Prop where
 ok:LOk g
 x0:aZ g.x0=aZ f.x0 - aZ h*aZ f.x1+aZ p.x
 x1:g.x1=f.x1
 y0:aZ g.y0=aZ f.y0 - aZ h*aZ f.y1+aZ p.y
 y1:g.y1=f.y1
theorem pn {h:GQ} {p:Pnt} {f:Ln} (hf:LOk f) (hh:QOk h) (hp:POk p):MvV h p f (mvF h p f):=by
 obtain ⟨x,xa,xb,xc⟩:=hf.X
 obtain ⟨y,ya,yb,yc⟩:=hf.Y
 obtain ⟨a1,a2,a3,a4⟩:=qsh_ok x xc hh
 obtain ⟨b1,b2,b3,b4⟩:=qsh_ok y yc hh
 rw [xa,xb] at a3
 rw [xb] at a4
 rw [ya,yb] at b3
 rw [yb] at b4
 obtain ⟨c1,c2⟩:=fz a1 hp.1
 obtain ⟨d1,d2⟩:=fz b1 hp.2
 unfold mvF
 rw [lxs_is,lys_is]
 generalize bq (lX f) h=qx at *
 generalize bq (lY f) h=qy at *
 generalize aq qx.c0 p.x=A at *
 generalize aq qy.c0 p.y=B at *
 exact ⟨⟨c1,a2,d1,b2⟩,by rw [c2,a3],a4,by rw [d2,b3],b4⟩
theorem MvV.uniq {h:GQ} {p:Pnt} {f g k:Ln} (a:MvV h p f g) (b:MvV h p f k):g=k :=
 Ln.ext4 (dC a.ok.1 b.ok.1 (by rw [a.x0,b.x0])) (a.x1.trans b.x1.symm) (dC a.ok.2.2.1 b.ok.2.2.1 (by rw [a.y0,b.y0])) (a.y1.trans b.y1.symm)
def pNeg (p:Pnt):Pnt:=⟨aE p.x,aE p.y⟩
theorem pNeg_ok {p:Pnt} (hp:POk p):POk (pNeg p):=⟨(jL hp.1).1,(jL hp.2).1⟩
theorem vg {h:GQ} {p:Pnt} {f:Ln} (hf:LOk f) (hh:QOk h) (hp:POk p):mvF (aE h) (pNeg p) (mvF h p f)=f:=by
 have a:=pn hf hh hp
 have b:=pn a.ok (jL hh).1 (pNeg_ok hp)
 refine b.uniq ⟨hf,?_,a.x1.symm,?_,a.y1.symm⟩
 · rw [a.x0,a.x1,(jL hh).2,show (pNeg p).x=aE p.x from rfl,(jL hp.1).2]; grind
 · rw [a.y0,a.y1,(jL hh).2,show (pNeg p).y=aE p.y from rfl,(jL hp.2).2]; grind
theorem lv_mv {h:GQ} {p:Pnt} {f g:Ln} {t:GR} (hf:LOk f) (hh:QOk h) (ht:TOk t) (m:MvV h p f g) :
 lvN (bH t h) g=(((lvN t f).1.1 - aZ h*(lvN t f).1.2+aZ p.x,(lvN t f).1.2),((lvN t f).2.1 - aZ h*(lvN t f).2.2+aZ p.y,(lvN t f).2.2)):=by
 obtain ⟨x,xa,xb,xc⟩:=hf.X
 obtain ⟨y,ya,yb,yc⟩:=hf.Y
 obtain ⟨x',xa',xb',xc'⟩:=m.ok.X
 obtain ⟨y',ya',yb',yc'⟩:=m.ok.Y
 obtain ⟨a1,a2⟩:=fz ht.1 hh
 unfold lvN lv
 rw [mr]
 simp only
 rw [xa,xb,xc,ya,yb,yc,xa',xb',xc',ya',yb',yc',m.x0,m.x1,m.y0,m.y1,a2,fB.2]
 by_cases e:t.r=zQ
 · simp only [if_pos e]
   refine Prod.ext (Prod.ext ?_ rfl) (Prod.ext ?_ rfl) <;> simp only <;> grind
 · simp only [if_neg e]
   refine Prod.ext (Prod.ext ?_ ?_) (Prod.ext ?_ ?_) <;> simp only <;> grind
theorem mv_same {h:GQ} {p:Pnt} {f g:Ln} {t:GR} (hf:LOk f) (hg:LOk g) (ht:TOk t) (hh:QOk h) (hp:POk p):bt (mvF h p f) (mvF h p g) (bH t h)=bt f g t:=by
 have a:=pn hf hh hp
 have b:=pn hg hh hp
 rw [Bool.eq_iff_iff,fH a.ok b.ok (yp ht hh),fH hf hg ht,lv_mv hf hh ht a,lv_mv hg hh ht b]
 constructor
 · intro e
   simp only [Prod.mk.injEq] at e
   obtain ⟨⟨e1,e2⟩,e3,e4⟩:=e
   rw [e2] at e1
   rw [e4] at e3
   exact Prod.ext (Prod.ext (by grind) e2) (Prod.ext (by grind) e4)
 · intro e; rw [e]
theorem uY {f:Ln} {t:GR} (hf:LOk f) (ht:TOk t):aZ (aC f t).x0=(lvN t f).1.1∧aZ (aC f t).x1=(lvN t f).1.2∧aZ (aC f t).y0=(lvN t f).2.1∧aZ (aC f t).y1=(lvN t f).2.2:=by
 obtain ⟨_,a,b,_⟩:=gA hf.X.1 ht
 obtain ⟨_,c,d,_⟩:=gA hf.Y.1 ht
 rw [ii]
 exact ⟨a,b,c,d⟩
theorem mv_red {h:GQ} {p:Pnt} {f:Ln} {t:GR} (hf:LOk f) (ht:TOk t) (hh:QOk h) (hp:POk p):aC (mvF h p f) (bH t h)=mvF h p (aC f t):=by
 have a:=pn hf hh hp
 have r:=(i6 hf ht).1
 have r2:=(i6 a.ok (yp ht hh)).1
 obtain ⟨u0,u1,u2,u3⟩:=uY a.ok (yp ht hh)
 obtain ⟨v0,v1,v2,v3⟩:=uY hf ht
 rw [lv_mv hf hh ht a] at u0 u1 u2 u3
 refine MvV.uniq (f:=aC f t) ⟨r2,?_,dC r2.2.1 r.2.1 (by rw [u1,v1]),?_,dC r2.2.2.2 r.2.2.2 (by rw [u3,v3])⟩ (pn r hh hp)
 · rw [u0,v0,v1]
 · rw [u2,v2,v3]
theorem lines_mv {h:GQ} {p:Pnt} (hh:QOk h) (hp:POk p):Mv TOk LOk cA bt aC (fun t=>bH t h) (mvF h p):=by
 refine ⟨fun a b ha hb=>rsh_inj ha.1 hb.1 hh,fun f g t hf hg ht=>mv_same hf hg ht hh hp,fun f t hf ht=>mv_red hf ht hh hp,fun f t hf ht=>(i6 hf ht).1,fun f g hf hg=>?_⟩
 rw [Bool.eq_iff_iff,jy,jy]
 exact ⟨fun e=>by rw [← vg hf hh hp,e,vg hg hh hp],fun e=>by rw [e]⟩
theorem mvU_is (h:GQ) (p:Pnt):mvU h p=mU (fun t=>bH t h) (mvF h p):=by
 funext u; unfold mvU mU shV mV; rfl
theorem mvU_cmp {h:GQ} {p:Pnt} (hh:QOk h) {a b:U Ln} (ha:Pu TOk LOk a) (hb:Pu TOk LOk b):cU (mvU h p a) (mvU h p b)=cU a b:=by
 unfold cU
 show lR [ao (bH a.iv.lo h) (bH b.iv.lo h),bN (ci a.iv) (ci b.iv),ao (bH a.iv.hi h) (bH b.iv.hi h)]=_
 rw [tO ha.1.1.1 hb.1.1.1 hh,tO ha.1.2.1 hb.1.2.1 hh]
theorem wM {h:GQ} {p:Pnt} (hh:QOk h) {n:List (U Ln)} (hn:∀ x∈n,Pu TOk LOk x):af (n.map (mvU h p))=(af n).map (mvU h p):=by
 rw [kJ,kJ,mK,mK,List.map_reverse]
 rw [show ([]:List (U Ln))=([]:List (U Ln)).map (mvU h p) from rfl,sQ (c:=dh) (c':=dh) (m:=mvU h p) (S:=Pu TOk LOk) (fun a b ha hb=>by rw [mf,mf]; exact mvU_cmp hh ha hb) hn (fun _ h=>by cases h)]
 rfl
theorem yZ {h:GQ} {p:Pnt} (hh:QOk h) {a b:U Ln} (ha:Pu TOk LOk a) (hb:Pu TOk LOk b):dP (mvU h p a).iv (mvU h p b).iv=dP a.iv b.iv:=by
 unfold dP
 show ((decide (ao (bH a.iv.hi h) (bH b.iv.lo h) < 0)) || ((ao (bH a.iv.hi h) (bH b.iv.lo h) == 0) && (a.iv.openHi || b.iv.openLo)))=_
 rw [tO ha.1.2.1 hb.1.1.1 hh]
section
variable [K:Key]
theorem pu_l {n:List (U Ln)} (hw:∀ x∈n,Wv x.iv) (hD:∀ x∈n,LOk x.f):∀ x∈n,Pu TOk LOk x:=fun x hx=>⟨⟨(hw x hx).1.1.ok.tok,(hw x hx).1.2.ok.tok⟩,hD x hx⟩
theorem moved_nf {h:GQ} {p:Pnt} (hh:QOk h) (hp:POk p) {n:List (U Ln)} (hn:NFl n) (hD:∀ x∈n,LOk x.f):aU (n.map (mvU h p))=(n.map (mvU h p),0):=by
 have hpu:=pu_l hn.wv hD
 obtain ⟨s1,s2⟩:=o6 (fun x hx=>(hn.wv x hx).1)
 have hDj:n.Pairwise fun a b=>Dj a.iv b.iv:=hn.ord.imp fun h=>.inl h
 have hWs:∀ x∈af n,Wv x.iv:=fun x hx=>hn.wv x (s1.mem_iff.1 hx)
 have hs:=oZ hn.wv hDj s1 s2
 have e:af n=n:=sc (k:=fun w=>eW w.iv) (qr hWs hs) (qr hn.wv hn.ord) fun x=>s1.mem_iff
 have e2:af (n.map (mvU h p))=n.map (mvU h p):=by rw [wM hh hpu,e]
 rw [lM (by rw [e2]) fun i h0 h1=>?_,lN,pk,e2]
 · have M:=lines_mv (p:=p) hh hp
   obtain ⟨a1,a2⟩:=M.ats hpu
   rw [mvU_is,a1,List.length_map,(M.iter a2 _ (Nat.le_refl _)).1]
   rw [nf_fix hn (fun x hx t ht=>(fH (hD x hx) (hD x hx) ht.ok.tok).2 rfl) n [] rfl rfl]
 · rw [List.length_map] at h1
   rw [e2,jh _ (by omega),jh _ h1,yZ hh (ph hpu (by omega)) (ph hpu h1)]
   have:=(vY hn.wv s1 s2).2 hDj i h0 (by rw [s1.length_eq]; exact h1)
   rwa [e] at this
end
end Go.Sx
namespace Go.Sx
def p0:Pnt:=⟨zQ,zQ⟩
theorem mvF_bl {h:GQ} {p:Pnt} {f:Ln} (hf:DL 16 140 f) (hh:Bq 64 h) (hx:Bq 64 p.x) (hy:Bq 64 p.y):BL 210 (mvF h p f):=by
 have a:=pn hf.ok hh.1 ⟨hx.1,hy.1⟩
 rcases hf with g | ⟨g1,g2,g⟩
 · have kx:=((g.1.sub (hh.mul g.2.1)).add hx)
   have ky:=((g.2.2.1.sub (hh.mul g.2.2.2)).add hy)
   have ex:(mvF h p f).x0=aq (ak f.x0 (am h f.x1)) p.x:=dC a.ok.1 kx.1 (by
    rw [a.x0,(fz (fT g.1.1 (eO hh.1 g.2.1.1).1).1 hx.1).2,(fT g.1.1 (eO hh.1 g.2.1.1).1).2,(eO hh.1 g.2.1.1).2])
   have ey:(mvF h p f).y0=aq (ak f.y0 (am h f.y1)) p.y:=dC a.ok.2.2.1 ky.1 (by
    rw [a.y0,(fz (fT g.2.2.1.1 (eO hh.1 g.2.2.2.1).1).1 hy.1).2,(fT g.2.2.1.1 (eO hh.1 g.2.2.2.1).1).2,(eO hh.1 g.2.2.2.1).2])
   exact ⟨by rw [ex]; exact kx.le (by decide),by rw [a.x1]; exact g.2.1.le (by decide),by rw [ey]; exact ky.le (by decide),by rw [a.y1]; exact g.2.2.2.le (by decide)⟩
 · have kx:=g.1.add hx
   have ky:=g.2.2.1.add hy
   have ex:(mvF h p f).x0=aq f.x0 p.x:=dC a.ok.1 kx.1 (by
    rw [a.x0,g1,fB.2,(fz g.1.1 hx.1).2]; grind)
   have ey:(mvF h p f).y0=aq f.y0 p.y:=dC a.ok.2.2.1 ky.1 (by
    rw [a.y0,g2,fB.2,(fz g.2.2.1.1 hy.1).2]; grind)
   exact ⟨by rw [ex]; exact kx.le (by decide),by rw [a.x1]; exact g.2.1.le (by decide),by rw [ey]; exact ky.le (by decide),by rw [a.y1]; exact g.2.2.2.le (by decide)⟩
section
variable [K:Key] [KeyB]
theorem mvU_sz {h:GQ} {p:Pnt} {n:List (U Ln)} (hN:NFl n) (hD:∀ u∈n,DT u.f) (hh:Bq 64 h) (hx:Bq 64 p.x) (hy:Bq 64 p.y):All (jD 30) (n.map (mvU h p)):=fun v hv=>by
 obtain ⟨u,hu,rfl⟩:=List.mem_map.1 hv
 have hw:=hN.wv u hu
 have key:∀ t,Tm t→SzR 30 (bH t h):=fun t ht=>by
  rw [mr]
  exact ⟨cu (((KeyB.b t ht).add hh).sz (by decide)) (by decide),cu ht.szr.2 (by decide)⟩
 exact ⟨⟨key _ hw.1.1,key _ hw.1.2⟩,jB ((mvF_bl (hD u hu) hh hx hy).sz (by decide)) (by decide)⟩
end
end Go.Sx
namespace Go.Sx
open Go Go.RowKit Go.Proofs
set_option maxRecDepth 100000
set_option maxHeartbeats 40000000
attribute [local irreducible] Code.wp wpList Rd Step ObS Ent
attribute [local irreducible] ao aL ah au ax bN an aP
attribute [local irreducible] aH aI am aq aE ak aS dA ij bI aw bq bH
def xsz (x:XQ):Nat:=x.n.b.size+x.d.b.size
def Gd (x:XQ):Prop:=∃ a:GQ,x=qX a∧QOk a∧a.num.mag < 2 ^ 64∧a.den.mag < 2 ^ 64
theorem tw (x:XQ) (hs:xsz x≤8):∃ e:Int,(∀ w0,Calls Tryz.prog 15 #[vXQ x] w0 (dE w0 (.int .i64 e) True))∧(e=0→Gd x):=by
 unfold xsz at hs
 rcases xq_cases x (by have:x.n.b.size≤8:=by omega
                       exact Nat.le_trans (Nat.mul_le_mul_right _ this) (by decide)) with ⟨a,rfl⟩ | h
 · have h1:(le a.num.mag).length≤8:=by rw [← em]; have:(bs a.num.mag).size+(bs a.den.mag).size≤8:=hs; omega
   have h2:(le a.den.mag).length≤8:=by rw [← em]; have:(bs a.num.mag).size+(bs a.den.mag).size≤8:=hs; omega
   have za:SzQ 16 a:=⟨Nat.le_trans (Nat.mul_le_mul_right _ h1) (by decide),Nat.le_trans (Nat.mul_le_mul_right _ h2) (by decide)⟩
   exact ⟨cP a,fun w0=>fq a za w0,fun e=>⟨a,rfl,tY e,(cp 8 _).1 h1,(cp 8 _).1 h2⟩⟩
 · exact ⟨5,h,fun e=>absurd e (by decide)⟩
theorem xY:Sh Tryz.prog 29 XQ vXQ:=⟨trivial⟩
theorem xZ:Sh Tryz.prog 27 XI vXI:=⟨trivial⟩
theorem big_no {n:Nat} {Q:Prop} (h:¬ n≤8) (hg:(!decide (((n:Nat):Int)>8))=true):Q:=by
 rw [decide_eq_true (by omega:((n:Nat):Int)>8)] at hg
 exact Bool.noConfusion hg
section
attribute [local instance 2000] xY xZ
end
end Go.Sx
namespace Go.Sx
open Go Go.RowKit Go.Proofs
set_option maxRecDepth 100000
set_option maxHeartbeats 40000000
attribute [local irreducible] Code.wp wpList Rd Step ObS Ent
attribute [local irreducible] ao aL ah au ax bN an aP
attribute [local irreducible] aH aI am aq aE ak aS dA ij bI aw bq bH
def Gq (a:GQ):Prop:=QOk a∧a.num.mag < 2 ^ 64∧a.den.mag < 2 ^ 64
theorem sz16 {a:GQ} (k:Gq a):SzQ 16 a:=⟨Nat.le_trans (Nat.mul_le_mul_right _ ((cp 8 _).2 k.2.1)) (by decide),Nat.le_trans (Nat.mul_le_mul_right _ ((cp 8 _).2 k.2.2)) (by decide)⟩
theorem gq_bq {a:GQ} (k:Gq a):Bq 64 a:=Bq.self k.1 k.2.1 (by
 unfold gy
 by_cases e:a.den=z0
 · rw [if_pos e]; decide
 · rw [if_neg e]; exact k.2.2)
theorem aa4:Bu Tryz.prog 39 [] [] (vPt ⟨oQ,oQ⟩):=Bu.of bld29 rfl rfl
theorem bld27':Bu Tryz.prog 29 [] [] (vQ oQ):=Bu.of nv rfl rfl
attribute [local instance] aa4 bld27'
end Go.Sx
namespace Go.Sx
open Go Go.RowKit Go.Proofs
theorem gd_gq {x:XQ} (h:Gd x):∃ a,x=qX a∧Gq a:=by
 obtain ⟨a,e,o,n,d⟩:=h
 exact ⟨a,e,o,n,d⟩
end Go.Sx
namespace Go.Sx
open Go Go.RowKit Go.Proofs Go.ChangeShapes Go.WideShapes
set_option maxRecDepth 100000
section
variable {H:Type} {enc:TypeId×Value→H} {W:World} {base:Nat} {sp:Nat→Bool} {held:Bool}
def dXI (x:XI):DataW H:=.agg [.lit (.bool x.neg),.lit (.string x.b.data.toList)]
def dXQ (x:XQ):DataW H:=.agg [dXI x.n,dXI x.d]
theorem uJ {fuel:Nat} {cs:List Value} {x:DataW H×List MemPlace} (h:DataW.trod enc Tryz.prog W base sp held fuel 27 cs=some x):∃ i:XI,cs=cXI i∧x.1=dXI i:=by
 obtain ⟨xs,n,_,hx,hlen,hxl,hf⟩:=DataW.trod_struct nn27 h
 rw [show Tryz.prog.cellsOf 27=2 by kernel_rfl] at hlen
 obtain ⟨c0,c1,rfl⟩:∃ c0 c1,cs=[c0,c1]:=by
  match cs,hlen with
  | [c0,c1],_=>exact ⟨_,_,rfl⟩
 have k4:Tryz.prog.cellsOf 4=1:=by kernel_rfl
 have k9:Tryz.prog.cellsOf 9=1:=by kernel_rfl
 have f0:DataW.trod enc Tryz.prog W base sp held n 4 (([c0,c1].drop 0).take (Tryz.prog.cellsOf 4))=xs[0]?:=hf 0 _ rfl
 have f1:DataW.trod enc Tryz.prog W base sp held n 9 (([c0,c1].drop 1).take (Tryz.prog.cellsOf 9))=xs[1]?:=hf 1 _ rfl
 rw [k4] at f0
 rw [k9] at f1
 obtain ⟨y0,y1,rfl⟩:∃ y0 y1,xs=[y0,y1]:=by
  have:xs.length=2:=hxl
  match xs,this with
  | [y0,y1],_=>exact ⟨_,_,rfl⟩
 obtain ⟨b,e0,d0⟩:=DataW.trod_bool Tryz.underlying4 f0
 obtain ⟨s,e1,d1,_⟩:=DataW.trod_string Tryz.underlying9 f1
 simp at e0 e1
 subst e0 e1
 refine ⟨⟨b,s⟩,rfl,?_⟩
 rw [hx,d0,d1]; rfl
theorem uI {fuel:Nat} {cs:List Value} {x:DataW H×List MemPlace} (h:DataW.trod enc Tryz.prog W base sp held fuel 29 cs=some x):∃ i:XQ,cs=cXQ i∧x.1=dXQ i:=by
 obtain ⟨xs,n,_,hx,hlen,hxl,hf⟩:=DataW.trod_struct nn29 h
 rw [show Tryz.prog.cellsOf 29=4 by kernel_rfl] at hlen
 have k25:Tryz.prog.cellsOf 27=2:=by kernel_rfl
 have f0:DataW.trod enc Tryz.prog W base sp held n 27 ((cs.drop 0).take (Tryz.prog.cellsOf 27))=xs[0]?:=hf 0 _ rfl
 have f1:DataW.trod enc Tryz.prog W base sp held n 27 ((cs.drop 2).take (Tryz.prog.cellsOf 27))=xs[1]?:=hf 1 _ rfl
 rw [k25] at f0 f1
 obtain ⟨y0,y1,rfl⟩:∃ y0 y1,xs=[y0,y1]:=by
  have:xs.length=2:=hxl
  match xs,this with
  | [y0,y1],_=>exact ⟨_,_,rfl⟩
 obtain ⟨i,e0,d0⟩:=uJ f0
 obtain ⟨j,e1,d1⟩:=uJ f1
 refine ⟨⟨i,j⟩,?_,?_⟩
 · show cs=cXI i++cXI j
   rw [← e0,← e1]
   match cs,hlen with
   | [a,b,c,d],_=>rfl
 · rw [hx]
   show DataW.agg [y0.1,y1.1]=DataW.agg [dXI i,dXI j]
   rw [d0,d1]
theorem w_xq (x:XQ):DataW.weights Tryz.prog 29 (dXQ (H:=H) x)=[x.n.b.data.toList.length,x.d.b.data.toList.length]:=by
 unfold dXQ dXI
 simp [DataW.weights,DataW.weightsEach,nn29,nn27]
end
end Go.Sx
namespace Go.Sx
open Go Go.RowKit Go.Proofs
set_option maxRecDepth 100000
set_option maxHeartbeats 40000000
attribute [local irreducible] Code.wp wpList Rd Step ObS Ent
attribute [local irreducible] ao aL ah au ax bN an
attribute [local irreducible] aH aI am aq aE ak aS dA ij
def plAdd (p q:Pnt):Pnt:=⟨aq p.x q.x,aq p.y q.y⟩
def plSub (p q:Pnt):Pnt:=⟨ak p.x q.x,ak p.y q.y⟩
def yP (p:Pnt) (r:GQ):Pnt:=⟨am p.x r,am p.y r⟩
def iS (a b:Pnt) (r:GQ):Pnt:=plAdd a (yP (plSub b a) r)
end Go.Sx
namespace Go.Sx
open Go Go.RowKit Go.Proofs
set_option maxRecDepth 100000
set_option maxHeartbeats 40000000
attribute [local irreducible] Code.wp wpList Rd Step ObS Ent
attribute [local irreducible] ao aL ah au ax bN
def f9 (u:U Ln) (t:GR):Int :=
 (ao u.iv.hi t)
attribute [irreducible] f9
def w5 (x:List (U Ln)) (target:GR) (i:Nat) (j:Nat):Int×Bool :=
 (((i:Nat):Int),((decide (((i:Nat):Int) < ((x.length:Nat):Int))) && ((f9 (gt x i) target) == 0)))
def gj (x:List (U Ln)) (target:GR) (i:Nat) (j:Nat):Nx (Nat×Nat) (Int×Bool) :=
 bif (decide (((i:Nat):Int) < ((j:Nat):Int))) then
  bif (decide ((f9 (gt x ((i+j) / 2)) target) < 0)) then
   .go ((((i+j) / 2)+1),j)
  else
   .go (i,((i+j) / 2))
 else
  .out (i,j)
def pK (x:List (U Ln)) (target:GR):Int×Bool :=
 fin (d7 (fun s=>gj x target s.1 s.2) (x.length - 0+1) (0,x.length)) (fun s=>w5 x target s.1 s.2) (fun r=>r)
attribute [irreducible] pK
def nh (l:List (U Ln)) (t:GR) (i:Nat) (mb2:Ln):Ln×Bool :=
 ((⟨(⟨(⟨false,0⟩:GI),(⟨false,0⟩:GI)⟩:GQ),(⟨(⟨false,0⟩:GI),(⟨false,0⟩:GI)⟩:GQ),(⟨(⟨false,0⟩:GI),(⟨false,0⟩:GI)⟩:GQ),(⟨(⟨false,0⟩:GI),(⟨false,0⟩:GI)⟩:GQ)⟩:Ln),false)
def fu (l:List (U Ln)) (t:GR) (i:Nat) (mb2:Ln):Nx (Nat×Ln) (Ln×Bool) :=
 bif (decide (((i:Nat):Int) < ((l.length:Nat):Int))) then
  bif (decide ((ao (((gt l i).iv).lo) t)>0)) then
   .out (i,mb2)
  else
   bif (((decide ((ao (((gt l i).iv).lo) t) < 0)) || (!((gt l i).iv).openLo)) && ((!(decide (((gt l i).iv).hi=t))) || (!((gt l i).iv).openHi))) then
    .ret ((gt l i).f,true)
   else
    .go ((i+1),mb2)
 else
  .out (i,mb2)
def fN (l:List (U Ln)) (t:GR):Ln×Bool :=
 fin (d7 (fun s=>fu l t s.1 s.2) ((l.length - (((pK l t).1).toNat))+1) (((pK l t).1).toNat,(⟨(⟨(⟨false,0⟩:GI),(⟨false,0⟩:GI)⟩:GQ),(⟨(⟨false,0⟩:GI),(⟨false,0⟩:GI)⟩:GQ),(⟨(⟨false,0⟩:GI),(⟨false,0⟩:GI)⟩:GQ),(⟨(⟨false,0⟩:GI),(⟨false,0⟩:GI)⟩:GQ)⟩:Ln))) (fun s=>nh l t s.1 s.2) (fun r=>r)
attribute [irreducible] fN
end Go.Sx
namespace Go.Sx
open Go Go.RowKit Go.Proofs
set_option maxRecDepth 100000
set_option maxHeartbeats 40000000
attribute [local irreducible] Code.wp wpList Rd Step ObS Ent
attribute [local irreducible] ao aL ah au ax bN an
attribute [local irreducible] aH aI am aq aE ak aS dA ij
def atRat (l:List (U Ln)) (t:GQ):Pnt×Bool :=
 bif (fN l (an t)).2 then (⟨aH (lxs (fN l (an t)).1) t,aH (lys (fN l (an t)).1) t⟩,true) else (⟨oQ,oQ⟩,false)
theorem bld29z:Bu Tryz.prog 39 [] [] (vPt ⟨oQ,oQ⟩):=Bu.of bld29 rfl rfl
attribute [local instance] bld29z
end Go.Sx
