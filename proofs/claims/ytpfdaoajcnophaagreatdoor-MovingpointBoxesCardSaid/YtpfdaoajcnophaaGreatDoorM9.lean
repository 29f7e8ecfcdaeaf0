/- A part of the proof of movingpointBoxes. -/
import Derived.Test.YtpfdaoajcnophaaGreatDoorM8
set_option linter.unusedVariables false
set_option linter.unusedSimpArgs false
open Go.Proofs.Tryz renaming runUnderlying24 → uu24, runUnderlying148 → uu148, call26 → cc26
namespace Go.Sx
open Go Go.RowKit Go.Proofs
set_option maxRecDepth 100000
set_option maxHeartbeats 40000000
attribute [local irreducible] Code.wp wpList Rd Step ObS Ent
attribute [local irreducible] ao aL ah au ax bN an
attribute [local irreducible] aH aI am aq aE ak aS
def cSq (s:Stq):List Value:=[.int .u8 ((s.time:Nat):Int),.int .u8 ((s.x:Nat):Int),.int .u8 ((s.y:Nat):Int),.int .u8 ((s.kind:Nat):Int)]
def vSq (s:Stq):Value:=.agg (cSq s).toArray
def cCr (c:Crq) (sv:Value):List Value:=[.int .u8 ((c.time:Nat):Int),.int .u8 ((c.x:Nat):Int),.int .u8 ((c.y:Nat):Int),sv]
def vCr (c:Crq) (sv:Value):Value:=.agg (cCr c sv).toArray
instance yM9_1:Cod Stq:=⟨cSq,4,fun _=>rfl,fun x=>by simp [cSq,Value.oneCell'],by decide⟩
instance yM9_2 (s:Stq):Cel (vSq s) (cSq s):=⟨rfl⟩
instance yM9_3 (s:Stq):Dc (cSq s) (vSq s):=⟨rfl⟩
instance yM9_4 (c:Crq) (sv:Value):Cel (vCr c sv) (cCr c sv):=⟨rfl⟩
instance yM9_5 (c:Crq) (sv:Value):Dc (cCr c sv) (vCr c sv):=⟨rfl⟩
instance yM9_6:Sz Tryz.prog 24 4:=⟨Tryz.sizeOf24⟩
instance yM9_7:Sz Tryz.prog 148 4:=⟨Tryz.sizeOf148⟩
instance yM9_8:Sz Tryz.prog 22 1:=⟨Tryz.sizeOf22⟩
instance yM9_9:Ag Tryz.prog 24 true:=⟨Tryz.isAgg24⟩
instance yM9_10:Ag Tryz.prog 148 true:=⟨Tryz.isAgg148⟩
instance yM9_11:Ag Tryz.prog 22 false:=⟨Tryz.isAgg22⟩
instance yM9_12:Un Tryz.prog 22 (.slice 148):=⟨Tryz.runUnderlying22⟩
instance yM9_13:Fl Tryz.prog 24 0 5 0:=⟨⟨_,_,uu24,rfl,rfl,rfl⟩⟩
instance yM9_14:Fl Tryz.prog 24 1 5 1:=⟨⟨_,_,uu24,rfl,rfl,rfl⟩⟩
instance yM9_15:Fl Tryz.prog 24 2 5 2:=⟨⟨_,_,uu24,rfl,rfl,rfl⟩⟩
instance yM9_16:Fl Tryz.prog 24 3 22 3:=⟨⟨_,_,uu24,rfl,rfl,rfl⟩⟩
instance yM9_17:Fl Tryz.prog 148 0 5 0:=⟨⟨_,_,uu148,rfl,rfl,rfl⟩⟩
instance yM9_18:Fl Tryz.prog 148 1 5 1:=⟨⟨_,_,uu148,rfl,rfl,rfl⟩⟩
instance yM9_19:Fl Tryz.prog 148 2 5 2:=⟨⟨_,_,uu148,rfl,rfl,rfl⟩⟩
instance yM9_20:Fl Tryz.prog 148 3 5 3:=⟨⟨_,_,uu148,rfl,rfl,rfl⟩⟩
instance yM9_21:Zc Tryz.prog 148 (cSq ⟨0,0,0,0⟩):=⟨⟨_,Tryz.zeroValue148,rfl⟩⟩
instance yM9_22:Sh Tryz.prog 148 Stq vSq:=⟨trivial⟩
section
variable {P:Program} {w0:World} {F:List (Nat×Value)} {t tt:TypeId} {x y:Operand}
theorem rmN (d:Nat) {k:IntKind} {m:Nat} (hx:ev F x=some (.int k ((m:Nat):Int))) (hy:ev F y=some (.int k ((d:Nat):Int))) (h:Nat.blt 0 d=true):Rd P w0 F [] (.binOp .rem t x y tt) (.int k ((m % d:Nat):Int)) :=
 tT hx hy (by have:=Nat.le_of_ble_eq_true h; omega) (by rw [Int.tmod_eq_emod_of_nonneg (by omega)]; rfl)
theorem cvI {m:Nat} (hm:m < 256) (hx:ev F x=some (.int .u8 ((m:Nat):Int))):Rd Tryz.prog w0 F [] (.convert 5 3 x) (.int .i64 ((m:Nat):Int)) :=
 bh Tryz.runUnderlying5 Tryz.runUnderlying3 hx (by rw [IntKind.wrap_i64]; omega)
end
theorem toInt_N (n:Nat):bI (ah (n:Int)).num=(n:Int):=by
 have e:(ah (n:Int)).num=aw (n:Int):=by unfold ah; rfl
 rw [e]
 refine Eq.trans (b:=dN (aw (n:Int))) ?_ (fO (n:Int))
 generalize aw (n:Int)=g
 unfold bI dN
 cases g.neg <;> rfl
theorem mag_N (n:Nat):(ah (n:Int)).num.mag=n:=by
 have e:(ah (n:Int)).num=aw (n:Int):=by unfold ah; rfl
 rw [e,← f4,fO]; rfl
theorem t_nrmM {P:Program} {Q:Exit→Act→World→Prop} {y:Code} {a:Act} {w:World} (h:y.wp P Q a w):thn P y Q .normal a w:=by unfold thn; exact h
theorem jn {P:Program} {Q:Exit→Act→World→Prop} {x y:Code} {a:Act} {w:World} (M:Act→World→Prop) (h:x.wp P (fun e a w=>e=.normal∧M a w) a w) (k:∀ a w,M a w→y.wp P Q a w):x.wp P (thn P y Q) a w :=
 Code.wp_mono (fun e a w h=>by obtain ⟨rfl,h⟩:=h; exact t_nrmM (k a w h)) h
end Go.Sx
namespace Go.Sx
open Go Go.RowKit Go.Proofs
set_option maxRecDepth 100000
set_option maxHeartbeats 40000000
attribute [local irreducible] Code.wp wpList Rd Step ObS Ent
attribute [local irreducible] ao aL ah au ax bN an
attribute [local irreducible] aH aI am aq aE ak aS dA ij bI
def B4 (q:Stq):Prop:=q.time < 256∧q.x < 256∧q.y < 256∧q.kind < 256
theorem sf (t x y:Nat) (ht:t < 100000) (hx:x < 100000) (hy:y < 100000) (w0:World):Calls Tryz.prog 89 #[.int .i64 (t:Int),.int .i64 (x:Int),.int .i64 (y:Int)] w0 (dE w0 (vSm (eC t x y)) (xi 40 (eC t x y))) :=
 mq t x y 40 (by omega) (by omega) (by omega) (by omega) w0
theorem fldP {w0:World} {F:List (Nat×Value)} {x:Operand} {m:Smp} (hx:ev F x=some (vSm m)):Rd Tryz.prog w0 F [] (.field 145 x 1) (vPt m.p) :=
 r_field Tryz.runUnderlying145 rfl Tryz.isAgg39 Tryz.sizeOf39 hx rfl
section
variable [K:Key] [KeyZ] [KeyB]
omit [KeyZ] [KeyB] in
theorem tL {u:U Ln} (h:Wv u.iv) {m:Nat} (hf:BL m u.f) (hm:m≤240):jD 30 u:=⟨wvs (ju h) _ (List.mem_singleton.2 rfl),jB (hf.sz hm) og⟩
omit [KeyB] in
theorem rY (c:Crq) (s:List Stq) (sv:Value) (hc:c.time < 256∧c.x < 256∧c.y < 256) (hs:∀ i,B4 (gt s i)) (hl:s.length≤6) (w0:World) (hsv:View w0 sv s):Calls Tryz.prog 109 #[vCr c sv] w0 (RetR w0 165 (fF c s) True):=by
 refine enter (N:=133) (args:=[vCr c sv]) Tryz.func109 rfl rfl ?_; intro ac h
 haveI:On:=⟨trivial⟩
 have hlen:=hsv.len
 have c0:=sf (c.time % 16) (c.x % 64) (c.y % 64) (by omega) (by omega) (by omega)
 refine gz h <| (xb) fun b1=>(xo (hs:=by exact rmN 16 rfl rfl rfl)) <| (xo (hs:=by exact cvI (by omega) rfl)) <| (xo (hs:=by exact rmN 64 rfl rfl rfl)) <| (xo (hs:=by exact cvI (by omega) rfl)) <| (xo (hs:=by exact rmN 64 rfl rfl rfl)) <| (xo (hs:=by exact cvI (by omega) rfl)) <| (xk c0) <| (xa) fun b4=>(W) ?_
 clear h ac; intro ac wo h
 replace h:=h.nilRow (α:=U Ln) 165
 refine wp_loop_ghost (fun n_ a_ w_=>∃ (i:Nat) (ov:Value) (st:TS),(s.length - i < n_)∧(i≤s.length)∧tsN c s i=st∧TsI st i∧St w0 133 [(1,ptr b1 0),(3,ov),(4,ptr b4 0),(5,.bool st.alone),(6,iN i)] [.row (α:=U Ln) 165 ov st.out,.blk b1 (cCr c sv) 24,.blk b4 (cSm (eC st.t st.x st.y)) 145] a_ w_) (s.length+1)
  ⟨0,_,_,by omega,by omega,rfl,xC c,h.re [0,2,1]⟩ ?_
 clear h ac; rintro n1 ac wo ⟨i,ov,st,hm1,hi,hst,hI,h⟩
 obtain ⟨m1,rfl⟩:∃ m,n1=m+1:=⟨n1 - 1,by omega⟩
 have hT:=hI.t
 have hX:=hI.x
 have hY:=hI.y
 have hO:=hI.len
 refine gz h <| (ai) ?_ ?_ <;> clear h ac wo <;> intro ac wo h hc1
 ·
  have hd1:i < s.length:=by
   rw [Bool.and_eq_true] at hc1
   have:=of_decide_eq_true hc1.1; omega
  clear hc1
  have hq:=hs i
  obtain ⟨q,hqe⟩:∃ q,gt s i=q:=⟨_,rfl⟩
  rw [hqe] at hq
  obtain ⟨q1,q2,q3,q4⟩:=hq
  have ct:=jc (ah (st.t:Int)).num (by rw [mag_N]; omega)
  rw [toInt_N] at ct
  have cn:=sf (st.t+1+q.time % 8) (q.x % 64) (q.y % 64) (by omega) (by omega) (by omega)
  have ck:=sf 0 (q.y % 64) (q.x % 64) (by omega) (by omega) (by omega)
  refine gz h <| (W) ?_; clear h ac wo; intro ac wo h
  rw [hqe] at h
  refine gz h <| (xa) fun b7=>(xk ct) <| (W) ?_; clear h ac wo; intro ac wo h
  refine gz h <| (xo (hs:=by exact rmN 8 rfl rfl rfl)) <| (xo (hs:=by exact cvI (by omega) rfl)) <| (xo (hs:=by exact rmN 64 rfl rfl rfl)) <| (xo (hs:=by exact cvI (by omega) rfl)) <| (xo (hs:=by exact rmN 64 rfl rfl rfl)) <| (xo (hs:=by exact cvI (by omega) rfl)) <| (xk cn) <| (xa) fun b10=>(xa) fun b11=>(W) ?_; clear h ac wo; intro ac wo h
  obtain ⟨nx,hnx⟩:∃ nx,eC ((st.t+1+q.time % 8:Nat):Int) ((q.x % 64:Nat):Int) ((q.y % 64:Nat):Int)=nx:=⟨_,rfl⟩
  have znx:xi 40 nx:=by rw [← hnx]; exact ap (cn w0)
  have zfr:xi 40 (eC (st.t:Int) (st.x:Int) (st.y:Int)):=ap (sf st.t st.x st.y (by omega) (by omega) (by omega) w0)
  have zfk:xi 40 (eC ((0:Nat):Int) ((q.y % 64:Nat):Int) ((q.x % 64:Nat):Int)):=ap (ck w0)
  rw [hnx] at h
  refine gz h <| (xo (hs:=by exact rmN 8 rfl rfl rfl)) <| (W) ?_; clear h ac wo; intro ac wo h
  obtain ⟨fr,hfr⟩:∃ fr,(bif decide (q.kind % 8=1) then eC st.t ((q.y % 64:Nat):Int) ((q.x % 64:Nat):Int) else eC st.t st.x st.y)=fr:=⟨_,rfl⟩
  have hft:fr.t=ah (st.t:Int):=by rw [← hfr]; cases decide (q.kind % 8=1) <;> rfl
  have zf:xi 40 fr:=by
   rw [← hfr]
   cases decide (q.kind % 8=1) with
   | false=>exact zfr
   | true=>exact ⟨zfr.1,zfk.2⟩
  refine jn (fun a w=>St w0 133 [(1,ptr b1 0),(3,ov),(4,ptr b4 0),(5,.bool st.alone),(6,iN i),(7,ptr b7 0),(10,ptr b10 0),(11,ptr b11 0)] [.row (α:=U Ln) 165 ov st.out,.blk b1 (cCr c sv) 24,.blk b4 (cSm (eC st.t st.x st.y)) 145,.blk b7 (cSq q) 148,.blk b10 (cSm nx) 145,.blk b11 (cSm fr) 145] a w) ?_ ?_
  ·
   refine gz h <| (ai) ?_ ?_ <;> clear h ac wo <;> intro ac wo h hc1
   ·
    have e:fr=eC st.t ((q.y % 64:Nat):Int) ((q.x % 64:Nat):Int):=by rw [← hfr,decide_eq_true (by have:=eq_of_beq hc1; omega)]; rfl
    refine gz h <| (xo (hs:=by exact rmN 64 rfl rfl rfl)) <| (xo (hs:=by exact cvI (by omega) rfl)) <| (xo (hs:=by exact rmN 64 rfl rfl rfl)) <| (xo (hs:=by exact cvI (by omega) rfl)) <| (xk ck) <| (xo (hs:=by exact fldP rfl)) <| (xs 0 (cSm fr) (hr:=by rw [e]; rfl)) <| (W) ?_; clear h ac wo; intro ac wo h
    exact ⟨rfl,h.re [3,4,5,2,1,0]⟩
   ·
    have e:fr=eC st.t st.x st.y:=by rw [← hfr,decide_eq_false (by have:=ne_of_beq_false hc1; omega)]; rfl
    rw [← e] at h
    refine gz h <| (W) ?_; clear h ac wo; intro ac wo h
    refine ⟨rfl,?_⟩
    rw [← e]
    exact h.re [3,4,5,2,1,0]
  ·
   clear h ac wo; intro ac wo h
   refine gz h <| (xo (hs:=by exact rmN 8 rfl rfl rfl)) <| (W) ?_; clear h ac wo; intro ac wo h
   refine jn (fun a w=>∃ ov2,St w0 133 [(1,ptr b1 0),(3,ov2),(4,ptr b4 0),(5,.bool st.alone),(6,iN i),(7,ptr b7 0),(10,ptr b10 0)] [.row (α:=U Ln) 165 ov2 (tsF st q).out,.blk b1 (cCr c sv) 24,.blk b4 (cSm (eC st.t st.x st.y)) 145,.blk b7 (cSq q) 148,.blk b10 (cSm nx) 145] a w) ?_ ?_
   ·
    refine gz h <| (ai) ?_ ?_ <;> clear h ac wo <;> intro ac wo h hc1
    ·
     have hk:decide (q.kind % 8=0)=false:=decide_eq_false (by have:=ne_of_beq_false (by rw [bne,Bool.not_eq_true'] at hc1; exact hc1); omega)
     have hex:(tsF st q).out=st.out++[tsU st q]:=by unfold tsF; rw [hk]; rfl
     have cf:=d6 fr.t 40 og zf.1
     have cx:=d6 nx.t 40 og znx.1
     have stO:StO fr nx:=⟨zf,znx⟩
     have cth:=wk fr nx stO
     obtain ⟨v,hv⟩:∃ v:Iv,(⟨an fr.t,an nx.t,decide (((st.out.length:Nat):Int)>0) && !st.alone,false⟩:Iv)=v:=⟨_,rfl⟩
     obtain ⟨u,hu⟩:∃ u:U Ln,(⟨v,dA fr nx⟩:U Ln)=u:=⟨_,rfl⟩
     have eu:u=tsU st q:=by
      rw [← hu,← hv,hft,← hfr,← hnx]; unfold tsU inZ; rfl
     refine gz h <| (W) ?_; clear h ac wo; intro ac wo h
     replace h:=h.emps 1
     refine eZ mixed [dv _,dw (vQ fr.t) [5],dv (vR (an fr.t)),dv _,dw (vQ nx.t) [4],dv (vR (an nx.t)),dv _,dv _,dv _,dv _,dv _,dv _,dv _,dv (vV v),⟨.nd (.one 14 fun v=>∃ b,v=ptr b 0),[6]⟩,dw undef [6]]
      [⟨_,[]⟩,⟨_,[]⟩,⟨_,[]⟩,⟨_,[]⟩,⟨_,[]⟩,⟨_,[]⟩,⟨.emp,[(14,.one 14 fun x=>.blk (bu x) (cV default) 74),(15,.one 14 fun x=>.blk (bu x) (cV v) 74)]⟩] h rfl (by kernel_rfl)
      ⟨oA obA,oA obA,oA fun _=>fD (dZ cc26 rfl cf),oA obA,oA obA,oA fun _=>fD (dZ cc26 rfl cx),oA obA,oA obA,oA obA,oA obA,oA obA,oA obA,oA obA,(by rw [← hv]; exact oA fun _=>aQ (bK mY rfl rfl rfl)),fun _ _=>i0 6 rfl (fun _=>rfl),fun ξ hφ=>iZ (u:=vV v) 6 (hφ 14 rfl) rfl rfl rfl rfl rfl rfl rfl,trivial⟩ ?_
     clear h ac wo; intro ξ ac wo hφ h
     obtain ⟨b8,hb8⟩:∃ b,ξ 14=ptr b 0:=hφ 14
     replace h:St w0 133 [(1,ptr b1 0),(3,ov),(4,ptr b4 0),(5,.bool st.alone),(6,iN i),(7,ptr b7 0),(10,ptr b10 0),(11,ptr b11 0),(12,ξ 14)] [.row (α:=U Ln) 165 ov st.out,.blk b1 (cCr c sv) 24,.blk b4 (cSm (eC st.t st.x st.y)) 145,.blk b7 (cSq q) 148,.blk b10 (cSm nx) 145,.blk b11 (cSm fr) 145,.blk (bu (ξ 14)) (cV v) 74] ac wo:=(h.pick [0,1,2,3,4,5,6] (by decide)).sub ⟨rfl,rfl,rfl,rfl,rfl,rfl,rfl,rfl,rfl,trivial⟩
     rw [hb8] at h
     clear hb8 hφ ξ
     refine gz h <| (W) ?_; clear h ac wo; intro ac wo h
     replace h:=h.emps 1
     refine eZ mixed [dv _,dw (vV v) [6],dw (vSm fr) [5],dw (vSm nx) [4],dv (vN (dA fr nx)),dv (vUN u),⟨.nd (.one 6 fun v=>NN v 1),[7]⟩,⟨.nd (.con True),[0,7]⟩,⟨.nd (.two 8 7 fun a b=>a=b),[]⟩]
      [⟨.row (α:=U Ln) 165 ov st.out,[(7,.one 7 fun v=>.row (α:=U Ln) 165 v (st.out++[u]))]⟩,⟨_,[]⟩,⟨_,[]⟩,⟨_,[]⟩,⟨_,[]⟩,⟨_,[]⟩,⟨_,[]⟩,⟨.emp,[(6,.one 6 fun v=>.row (α:=U Ln) 165 v [u])]⟩] h rfl (by kernel_rfl)
      ⟨oA obA,oA obA,oA obA,oA obA,oA fun _=>fD (dZ Tryz.call215 rfl cth),(by rw [← hu]; exact oA fun _=>aQ (bK uC rfl rfl rfl)),fun _ _=>l6 7 u lS rfl rfl,fun _ _=>wH (j:=6) 0 7 lS rfl rfl (by omega) rfl (fun v=>by simp only [dg,bA] <;> rfl),fun _ _=>pm (j:=7) (by decide) rfl,trivial⟩ ?_
     clear h ac wo; intro ξ ac wo hφ h
     replace h:St w0 133 [(1,ptr b1 0),(3,ξ 8),(4,ptr b4 0),(5,.bool st.alone),(6,iN i),(7,ptr b7 0),(10,ptr b10 0)] [.row (α:=U Ln) 165 (ξ 7) (st.out++[u]),.blk b1 (cCr c sv) 24,.blk b4 (cSm (eC st.t st.x st.y)) 145,.blk b7 (cSq q) 148,.blk b10 (cSm nx) 145] ac wo:=(h.pick [0,1,2,3,4] (by decide)).sub ⟨rfl,rfl,rfl,rfl,rfl,rfl,rfl,trivial⟩
     rw [show ξ 8=ξ 7 from hφ 8,eu,← hex] at h
     generalize ξ 7=s2 at h; clear hφ ξ
     exact ⟨rfl,s2,h⟩
    ·
     have hk:decide (q.kind % 8=0)=true:=decide_eq_true (by have:=eq_of_beq (show (((q.kind % 8:Nat):Int) == 0)=true by rw [bne,Bool.not_eq_false'] at hc1; exact hc1); omega)
     have hex:(tsF st q).out=st.out:=by unfold tsF; rw [hk]; rfl
     rw [← hex] at h
     refine gz h <| (W) ?_; clear h ac wo; intro ac wo h
     refine ⟨rfl,ov,?_⟩
     exact h.re [0,1,2,3,4]
   ·
    clear h ac wo; rintro ac wo ⟨ov2,h⟩
    refine gz h <| (xo (hs:=by exact rmN 8 rfl rfl rfl)) <| (W) ?_; clear h ac wo; intro ac wo h
    have e1:(((q.kind % 8:Nat):Int) == 0)=(tsF st q).alone:=by
     show _=decide (q.kind % 8=0)
     rw [Bool.eq_iff_iff,beq_iff_eq,decide_eq_true_eq]; omega
    have e2:nx=eC (((tsF st q).t:Nat):Int) (((tsF st q).x:Nat):Int) (((tsF st q).y:Nat):Int):=hnx.symm
    rw [e1,e2] at h
    have hN:tsN c s (i+1)=tsF st q:=by rw [uL c hd1,hst,hqe]
    refine aO ⟨m1,by omega,i+1,ov2,tsF st q,by omega,by omega,hN,xB q (by omega) hI,h.re [0,1,2]⟩
 ·
  have hd1:i=s.length:=by
   have h6:decide (((i:Nat):Int) < 6)=false∨decide (((i:Nat):Int) < ((s.length:Nat):Int))=false:=by
    cases h1:decide (((i:Nat):Int) < ((s.length:Nat):Int)) with
    | false=>exact .inr rfl
    | true=>rw [h1] at hc1; exact .inl hc1
   rcases h6 with h6 | h6
   · have:=of_decide_eq_false h6; omega
   · have:=of_decide_eq_false h6; omega
  subst hd1
  clear hc1
  have hU:trU c s=tsE st:=by unfold trU; rw [Nat.min_eq_left hl,hst]
  obtain ⟨hw,_,hn,_⟩:=uM c s
  have zU:All (jD 30) (trU c s):=fun u hu=>tL (hw u hu).1 (hw u hu).2 (by decide)
  refine gz h <| (W) ?_; clear h ac wo; intro ac wo h
  refine jn (fun a w=>∃ ov2,St w0 133 [(3,ov2)] [.row (α:=U Ln) 165 ov2 (trU c s)] a w) ?_ ?_
  · 
   refine gz h <| (ai) ?_ ?_ <;> clear h ac wo <;> intro ac wo h hc1
   ·
    have zs:=ap (sf st.t st.x st.y (by omega) (by omega) (by omega) w0)
    obtain ⟨sm,hsm⟩:∃ sm,eC (st.t:Int) (st.x:Int) (st.y:Int)=sm:=⟨_,rfl⟩
    have eq1:inZ st.t=an sm.t:=by rw [← hsm]; rfl
    rw [hsm] at h zs
    have cf:=d6 sm.t 40 og zs.1
    have cs:=still_ct sm.p 40 og zs.2
    refine gz h <| (xk cf) <| (xa) fun b13=>(W) ?_; clear h ac wo; intro ac wo h
    obtain ⟨u,hu⟩:∃ u:U Ln,(⟨⟨an sm.t,an sm.t,false,false⟩,ij sm.p⟩:U Ln)=u:=⟨_,rfl⟩
    have e:trU c s=st.out++[u]:=by rw [hU,← hu,← eq1]; unfold tsE; rw [hc1,hsm]; rfl
    obtain ⟨v,hv⟩:∃ v:Iv,(⟨an sm.t,an sm.t,false,false⟩:Iv)=v:=⟨_,rfl⟩
    rw [hv] at hu
    replace h:=h.emps 1
    refine eZ mixed [dv _,dw (vR (an sm.t)) [0],dw (vR (an sm.t)) [0],dv (vV v),dv _,dw (vPt sm.p) [3],dv (vN (ij sm.p)),dv (vUN u),⟨.nd (.one 8 fun v=>NN v 1),[4]⟩,⟨.nd (.con True),[1,4]⟩,⟨.nd (.two 10 9 fun a b=>a=b),[]⟩]
     [⟨_,[]⟩,⟨.row (α:=U Ln) 165 ov st.out,[(9,.one 9 fun v=>.row (α:=U Ln) 165 v (st.out++[u]))]⟩,⟨_,[]⟩,⟨_,[]⟩,⟨.emp,[(8,.one 8 fun v=>.row (α:=U Ln) 165 v [u])]⟩] h rfl (by kernel_rfl)
     ⟨oA obA,oA obA,oA obA,(by rw [← hv]; exact oA fun _=>aQ (bK mY rfl rfl rfl)),oA obA,oA obA,oA fun _=>fD (dZ Tryz.call216 rfl cs),(by rw [← hu]; exact oA fun _=>aQ (bK uC rfl rfl rfl)),fun _ _=>l6 4 u lS rfl rfl,fun _ _=>wH (j:=8) 1 4 lS rfl rfl (by omega) rfl (fun v=>by simp only [dg,bA] <;> rfl),fun _ _=>pm (j:=9) (by decide) rfl,trivial⟩ ?_
    clear h ac wo; intro ξ ac wo hφ h
    replace h:St w0 133 [(3,ξ 10)] [.row (α:=U Ln) 165 (ξ 9) (st.out++[u])] ac wo:=(h.pick [1] (by decide)).sub ⟨rfl,trivial⟩
    rw [show ξ 10=ξ 9 from hφ 10,← e] at h
    generalize ξ 9=s2 at h; clear hφ ξ
    exact ⟨rfl,s2,h⟩
   ·
    have e:trU c s=st.out:=by rw [hU]; unfold tsE; rw [hc1]; rfl
    rw [← e] at h
    refine gz h <| (W) ?_; clear h ac wo; intro ac wo h
    exact ⟨rfl,ov,h.re [0]⟩
  ·
   clear h ac wo; rintro ac wo ⟨ov2,h⟩
   refine gz h <| (W) ?_; clear h ac wo; intro ac wo h
   refine ux (xs:=fF c s) h (dH Tryz.call108 rfl) (fun w_ hB_ hS_=>ls (trU c s) ov2 (by omega) zU w_ (row_view hS_ 0 rfl)) rfl ?_; clear h ac wo; intro s2 ac wo _ h
   refine gz h <| (W) ?_; clear h ac wo; intro ac wo h
   exact (rt h) (h.retR 0 rfl trivial)
end
end Go.Sx
namespace Go.Sx
open Go Go.RowKit Go.Proofs
set_option maxRecDepth 100000
set_option maxHeartbeats 40000000
attribute [local irreducible] Code.wp wpList Rd Step ObS Ent
attribute [local irreducible] ao aL ah au ax bN an
attribute [local irreducible] aH aI am aq aE ak aS dA ij bI aw
theorem make_0 {n d:GI} (hd:dN d≠0):(cK n d).2=0:=by
 have h:(cw d == 0)=false:=by rw [kv]; simp; exact hd
 unfold cK; rw [h]; rfl
theorem pU (n:Nat) (hn:n < 100000) (w0:World):Calls Tryz.prog 110 #[.int .i64 (n:Int),.int .i64 4] w0 (dE w0 (.tuple #[vQ (qa n),.int .i64 0]) (SzQ 35 (qa n))):=by
 refine enter (N:=13) (args:=[.int .i64 (n:Int),.int .i64 4]) Tryz.func110 rfl rfl ?_; intro ac h
 have c1:=eG (n:Int) 36 og (by omega)
 have c2:=eG 4 36 og (by omega)
 have c3:=rB (aw (n:Int)) (aw 4) (ap (c1 w0)) (ap (c2 w0))
 have e0:(cK (aw (n:Int)) (aw 4)).2=0:=make_0 (by rw [fO]; decide)
 rw [e0] at c3
 refine gz h <| (xa) fun b1=>(xk c1) <| (xk c2) <| (xk c3) <| (W) ?_; clear h ac; intro ac wo h
 exact qp 0 h (h.retP (u:=.tuple #[vQ (qa n),.int .i64 0]) rfl (ap (c3 w0)))
def cCt (p q:Nat):List Value:=[.int .u8 (p:Int),.int .u8 (q:Int)]
def vCt (p q:Nat):Value:=.agg (cCt p q).toArray
instance yM9_23 (p q:Nat):Cel (vCt p q) (cCt p q):=⟨rfl⟩
instance yM9_24 (p q:Nat):Dc (cCt p q) (vCt p q):=⟨rfl⟩
instance yM9_25:Sz Tryz.prog 25 2:=⟨Tryz.sizeOf25⟩
instance yM9_26:Ag Tryz.prog 25 true:=⟨Tryz.isAgg25⟩
instance yM9_27:Un Tryz.prog 25 (.array 2 5):=⟨Tryz.runUnderlying25⟩
section
variable [K:Key] [KeyZ] [KeyB]
omit [KeyZ] [KeyB] in
theorem gap_cmp (p q:Nat) [G:KeyG p q]:decide (bR (aN ⟨an (qa p),an (qa (p+q)),false,false⟩) (aG ⟨an (qa p),an (qa (p+q)),false,false⟩)≥0)=false:=by
 have:=vcheck (i:=⟨an (qa p),an (qa (p+q)),false,false⟩) ⟨⟨G.a,G.b⟩,by
  show tk (an (qa p))≤tk (an (qa (p+q)))
  have h:=G.a.cmp G.b
  have h2:=qa_le p q
  rw [h] at h2
  unfold sgn at h2
  split at h2
  · omega
  · split at h2
    · omega
    · omega,fun _=>⟨rfl,rfl⟩⟩
 unfold fS at this
 rw [n8 G.a,n8 G.b] at this
 cases h:decide (bR (aN ⟨an (qa p),an (qa (p+q)),false,false⟩) (aG ⟨an (qa p),an (qa (p+q)),false,false⟩)≥0) with
 | false=>rfl
 | true=>rw [h] at this; cases this
theorem y7 (c:Crq) (s:List Stq) (sv:Value) (p q:Nat) [G:KeyG p q] (hp:p < 256) (hq:q < 256) (hc:c.time < 256∧c.x < 256∧c.y < 256) (hs:∀ i,B4 (gt s i)) (hl:s.length≤6) (w0:World) (hsv:View w0 sv s):Calls Tryz.prog 19 #[vCr c sv,vCt p q] w0 (RetR w0 165 (xh c s p q) True):=by
 refine enter (N:=75) (args:=[vCr c sv,vCt p q]) Tryz.func19 rfl rfl ?_; intro ac h
 haveI:On:=⟨trivial⟩
 obtain ⟨_,hN,hn⟩:=tK c s
 obtain ⟨l,hle⟩:∃ l,fF c s=l:=⟨_,rfl⟩
 rw [hle] at hN hn
 refine gz h <| (xb) fun b2=>(xb) fun b3=>(W) ?_; clear h ac; intro ac wo h
 refine jo (xs:=l) h (dH Tryz.call109 rfl) (fun w_ hB_ hS_=>by rw [← hle]; exact rY c s sv hc hs hl w_ (hsv.below hB_)) rfl ?_; clear h ac wo; intro lv ac wo _ h
 refine gz h <| (xo (hs:=by exact rmN 3 rfl rfl rfl)) <| (ai) ?_ ?_ <;> clear h ac wo <;> intro ac wo h hc1
 ·
  have e:xh c s p q=l:=by unfold xh; rw [decide_eq_true (by have:=eq_of_beq hc1; omega),hle]; rfl
  rw [e]
  refine gz h <| (W) ?_; clear h ac wo; intro ac wo h
  exact (rt h) (h.retR 0 rfl trivial)
 have hp3:p % 3≠0:=by have:=ne_of_beq_false hc1; omega
 have e:xh c s p q=gU l (dK (ta l) [pW p q]):=by unfold xh; rw [decide_eq_false hp3,hle]; rfl
 rw [e]
 have ca:=pU p (by omega)
 have cb:=pU (p+q) (by omega)
 have za:=ap (ca w0)
 have zb:=ap (cb w0)
 refine gz h <| (xo (hs:=by exact cvI hp rfl)) <| (xk ca) <| (xa) fun b6=>(xo (hs:=by exact cvI hp rfl)) <| (xo (hs:=by exact cvI hq rfl)) <| (xk cb) <| (xa) fun b8=>(W) ?_; clear h ac wo; intro ac wo h
 obtain ⟨gI0,hgI0⟩:∃ g:Iv,(⟨an (qa p),an (qa (p+q)),false,false⟩:Iv)=g:=⟨_,rfl⟩
 have cc:=aaq (qa p) (qa (p+q)) (cu za og) (cu zb og) (gap_cmp p q)
 rw [hgI0] at cc
 refine jo (xs:=[gI0]) h (dH Tryz.call111 rfl) (fun w_ hB_ hS_=>cc w_) rfl ?_; clear h ac wo; intro gv0 ac wo _ h
 refine gz h <| (xo (hs:=by exact rmN 3 rfl rfl rfl)) <| (W) ?_; clear h ac wo; intro ac wo h
 refine jn (fun a w=>∃ gv1,St w0 75 [(5,lv),(10,gv1)] [.row (α:=U Ln) 165 lv l,.row (α:=Iv) 74 gv1 [pW p q]] a w) ?_ ?_
 ·
  refine gz h <| (ai) ?_ ?_ <;> clear h ac wo <;> intro ac wo h hc2
  ·
   have h1:decide (p % 3=1)=true:=by
    rw [Bool.and_eq_true] at hc2
    exact decide_eq_true (by have:=eq_of_beq hc2.1; omega)
   refine gz h <| (W) ?_; clear h ac wo; intro ac wo h
   replace h:St w0 75 [(3,ptr b3 0),(5,lv),(6,ptr b6 0),(8,ptr b8 0)] [.row (α:=U Ln) 165 lv l,.blk b3 (cCt p q) 25,.blk b6 (cQ (qa p)) 29,.blk b8 (cQ (qa (p+q))) 29] ac wo:=h.re [3,4,2,1]
   have c1:=cq 1 36 og og
   have c2:=cq 2 36 og og
   have cm:=nG (qa p) (ah 1) (ah 2) 10 og (cu za og) (cu (ap (c1 w0)) og) (cu (ap (c2 w0)) og) trivial (cu (ap (c2 w0)) og)
   rw [gX_make] at cm
   replace h:=h.emps 1
   refine eZ mixed [dw (vQ (qa p)) [2],dv _,dv _,dv (.tuple #[vR (gX p),.int .i64 0]),dv _,dv (vR (gX p)),dv (.int .i64 0),⟨.nd (.one 7 fun v=>∃ b,v=ptr b 0),[4]⟩,dw undef [4],dv (.int .i64 0)]
    [⟨_,[]⟩,⟨_,[]⟩,⟨_,[]⟩,⟨_,[]⟩,⟨.emp,[(7,.one 7 fun x=>.blk (bu x) (cR default) 46),(8,.one 7 fun x=>.blk (bu x) (cR (gX p)) 46)]⟩] h rfl (by kernel_rfl)
    ⟨oA obA,oA fun _=>fD (dZ Tryz.call101 rfl c1),oA fun _=>fD (dZ Tryz.call101 rfl c2),oA fun _=>fD (dZ Tryz.call112 rfl cm),oA obA,oA obA,oA obA,fun _ _=>i0 4 rfl (fun _=>rfl),fun ξ hφ=>iZ (u:=vR (gX p)) 4 (hφ 7 rfl) rfl rfl rfl rfl rfl rfl rfl,oA obA,trivial⟩ ?_
   clear h ac wo; intro ξ ac wo hφ h
   obtain ⟨b11,hb11⟩:∃ b,ξ 7=ptr b 0:=hφ 7
   replace h:St w0 75 [(3,ptr b3 0),(5,lv),(6,ptr b6 0),(8,ptr b8 0),(11,ξ 7)] [.row (α:=U Ln) 165 lv l,.blk b3 (cCt p q) 25,.blk b6 (cQ (qa p)) 29,.blk b8 (cQ (qa (p+q))) 29,.blk (bu (ξ 7)) (cR (gX p)) 46] ac wo:=(h.pick [0,1,2,3,4] (by decide)).sub ⟨rfl,rfl,rfl,rfl,rfl,trivial⟩
   rw [hb11] at h
   clear hb11 hφ ξ
   refine gz h <| (W) ?_; clear h ac wo; intro ac wo h
   replace h:=h.emps 1
   have cf:=d6 (qa p) 35 og za
   have cg:=d6 (qa (p+q)) 35 og zb
   have cx:=tR (gX p) (an (qa (p+q))) (qV G.x) (qV G.b)
   obtain ⟨v,hv⟩:∃ v:Iv,(⟨an (qa p),wN (gX p) (an (qa (p+q))),(((q % 2:Nat):Int) == 1),false⟩:Iv)=v:=⟨_,rfl⟩
   have ev:v=pW p q:=by
    rw [← hv]; unfold pW; rw [h1,cond_true,show (((q % 2:Nat):Int) == 1)=decide (q % 2=1) by rw [Bool.eq_iff_iff,beq_iff_eq,decide_eq_true_eq]; omega]
   refine eZ mixed [dw (vQ (qa p)) [2],dv (vR (an (qa p))),dw (vR (gX p)) [4],dw (vQ (qa (p+q))) [3],dv (vR (an (qa (p+q)))),dv (vR (wN (gX p) (an (qa (p+q))))),dv _,dw (.int .u8 (q:Int)) [1],dv (.int .u8 ((q % 2:Nat):Int)),dv (.bool (((q % 2:Nat):Int) == 1)),dv (vV v),⟨.nd (.one 11 fun v=>NN v 1),[5]⟩,⟨.nd (.two 12 11 fun a b=>a=b),[]⟩]
    [⟨_,[]⟩,⟨_,[]⟩,⟨_,[]⟩,⟨_,[]⟩,⟨_,[]⟩,⟨.emp,[(11,.one 11 fun x=>.row (α:=Iv) 74 x [v])]⟩] h rfl (by kernel_rfl)
    ⟨oA obA,oA fun _=>fD (dZ cc26 rfl cf),oA obA,oA obA,oA fun _=>fD (dZ cc26 rfl cg),oA fun _=>fD (dZ Tryz.call113 rfl cx),oA obA,oA obA,oA fun _=>aQ (rmN 2 rfl rfl rfl),oA obA,(by rw [← hv]; exact oA fun _=>aQ (bK mY rfl rfl rfl)),fun _ _=>l6 5 v lL rfl rfl,fun _ _=>pm (j:=11) (by decide) rfl,trivial⟩ ?_
   clear h ac wo; intro ξ ac wo hφ h
   replace h:St w0 75 [(5,lv),(10,ξ 12)] [.row (α:=U Ln) 165 lv l,.row (α:=Iv) 74 (ξ 11) [v]] ac wo:=(h.pick [0,5] (by decide)).sub ⟨rfl,rfl,trivial⟩
   rw [show ξ 12=ξ 11 from hφ 12,ev] at h
   exact ⟨rfl,_,h⟩
  ·
   have h1:decide (p % 3=1)=false:=by
    cases hd:decide (p % 3=1) with
    | false=>rfl
    | true =>
     have:=of_decide_eq_true hd
     rw [show (((p % 3:Nat):Int) == 1)=true by rw [beq_iff_eq]; omega] at hc2
     cases hc2
   have e3:gI0=pW p q:=by rw [← hgI0]; unfold pW; rw [h1]; rfl
   rw [e3] at h
   refine gz h <| (W) ?_; clear h ac wo; intro ac wo h
   exact ⟨rfl,gv0,h.re [3,0]⟩
 ·
  clear h ac wo; rintro ac wo ⟨gv1,h⟩
  have hgw:Wv (pW p q):=zI
  have hd:=vH hN.nf.wv
  refine gz h <| (W) ?_; clear h ac wo; intro ac wo h
  have p1:=(RetR.pr (xy l lv (by omega) hN.nf.wv wo (row_view h.sep 0 rfl))).2
  refine jo (xs:=ta l) h (dH Tryz.call29 rfl) (fun w_ hB_ hS_=>xy l lv (by omega) hN.nf.wv w_ (row_view hS_ 0 rfl)) rfl ?_; clear h ac wo; intro dv1 ac wo _ h
  refine gz h <| (W) ?_; clear h ac wo; intro ac wo h
  have p2:=(RetR.pr (kS (ta l) dv1 [pW p q] gv1 (by omega) (by show 1≤200; decide) hd.1.wv (ju hgw) (wvs hd.1.wv) (wvs (ju hgw)) wo (row_view h.sep 0 rfl) (row_view h.sep 2 rfl))).2
  refine jo (xs:=dK (ta l) [pW p q]) h (dH Tryz.call115 rfl) (fun w_ hB_ hS_=>kS (ta l) dv1 [pW p q] gv1 (by omega) (by show 1≤200; decide) hd.1.wv (ju hgw) (wvs hd.1.wv) (wvs (ju hgw)) w_ (row_view hS_ 0 rfl) (row_view hS_ 2 rfl)) rfl ?_; clear h ac wo; intro dv2 ac wo _ h
  have hcm:=(mB hd.1.wv (ju hgw)).1
  obtain ⟨r1,_⟩:=q9 hN.nf hN.ok hcm.wv
  have r2:=yt (g:=pW p q) hN.nf.wv hgw
  have zr:All (jD 30) (rsI l (dK (ta l) [pW p q])):=fun x hx=>tL (r1 x hx).1 ((r1 x hx).2.bl (by decide)) (by decide)
  have p2':(dK (ta l) [pW p q]).length≤200:=by simp only [List.length_singleton] at p2; omega
  refine gz h <| (W) ?_; clear h ac wo; intro ac wo h
  refine jo (xs:=gU l (dK (ta l) [pW p q])) h (dH Tryz.call114 rfl) (fun w_ hB_ hS_=>r9 l lv (dK (ta l) [pW p q]) dv2 (by omega) p2' hN.nf.wv hcm.wv (by omega) zr w_ (row_view hS_ 2 rfl) (row_view hS_ 0 rfl)) rfl ?_; clear h ac wo; intro rv ac wo _ h
  refine gz h <| (W) ?_; clear h ac wo; intro ac wo h
  exact (rt h) (h.retR 0 rfl trivial)
end
end Go.Sx
