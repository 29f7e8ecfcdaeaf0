/- A part of the proof of movingnumberChecks. -/
import Derived.Test.YtpfdaoajcnophaaGreatDoorC9
import Derived.Test.YtpfdaoajcnophaaGreatDoorA8
import Derived.Test.YtpfdaoajcnophaaGreatDoorC8
import Derived.Test.YtpfdaoajcnophaaGreatDoorC7
set_option linter.unusedVariables false
set_option linter.unusedSimpArgs false
open Go.Proofs.Tryz renaming runUnderlying76 → uu76, zeroValue76 → vv76, sizeOf74 → zz74, sizeOf72 → zz72, runUnderlying275 → uu275, underlying27 → nn27, underlying4 → nn4, underlying29 → nn29, underlying46 → nn46, underlying74 → nn74
namespace Go.Sx
open Go Go.RowKit Go.Proofs
set_option maxRecDepth 100000
set_option maxHeartbeats 40000000
attribute [local irreducible] Code.wp wpList Rd Step ObS Ent
attribute [local irreducible] ah ak aq an bN aQ be
attribute [local irreducible] aW aR aj aB aM ao bA aw
def oUD:U Qd:=⟨⟨⟨oQ,oQ,false⟩,⟨oQ,oQ,false⟩,false,false⟩,⟨oQ,oQ,oQ⟩⟩
instance yD1_1:Sz Tryz.prog 76 32:=⟨Tryz.sizeOf76⟩
instance yD1_2:Ag Tryz.prog 76 true:=⟨Tryz.isAgg76⟩
instance yD1_3:Un Tryz.prog 66 (.slice 76):=⟨Tryz.runUnderlying66⟩
instance yD1_4:Fl Tryz.prog 76 0 74 0:=⟨⟨_,_,uu76,rfl,rfl,rfl⟩⟩
instance yD1_5:Fl Tryz.prog 76 1 72 20:=⟨⟨_,_,uu76,rfl,rfl,rfl⟩⟩
instance yD1_6:Zc Tryz.prog 76 (cUD oUD):=⟨⟨_,vv76,rfl⟩⟩
instance yD1_7:Sh Tryz.prog 76 (U Qd) vUD:=⟨trivial⟩
theorem aai:BuildF Tryz.prog 76 (cUD oUD) [(0,20),(20,12)]:=BuildF.of vv76 rfl uu76 (by intro w; simp [zz74,zz72])
instance yD1_8 (x:Iv) (f:Qd):Bu Tryz.prog 76 [0,1] [vV x,vD f] (vUD (⟨x,f⟩:U Qd)):=Bu.of aai rfl rfl
theorem pG:SlT Tryz.prog 66 76 32 360 (cUD oUD):=⟨Tryz.underlying66,Tryz.t76,_,Tryz.type76,rfl,rfl,rfl,rfl,rfl,by decide,by decide⟩
theorem rp (w0:World):Calls Tryz.prog 173 #[] w0 (dh w0 (.iface 92 (.agg #[])) True):=by
 refine enter (N:=3) (args:=[]) Tryz.func173 rfl rfl ?_; intro ac h
 refine gz h <| (W) ?_; clear h ac; intro ac wo h
 exact (rt h) (h.retP rfl trivial)
theorem lT (l:List (U Qd)) (lv:Value) (hl:l.length≤1000) (w0:World) (hlv:View w0 lv l):Calls Tryz.prog 168 #[lv] w0 (RetR w0 88 l True):=by
 refine enter (N:=22) (args:=[lv]) Tryz.func168 rfl rfl ?_; intro ac h
 have hlen:=hlv.len
 refine gz h <| (W) ?_; clear h ac; intro ac wo h
 replace h:=h.nilRow (α:=U Qd) 88
 refine wp_loop_ghost (fun n_ a_ w_=>∃ (i:Nat) (sv:Value),(l.length - i < n_)∧(i≤l.length)∧St w0 22 [(3,sv),(6,lv),(7,iN l.length),(8,iN i)] [.row (α:=U Qd) 88 sv (l.take i)] a_ w_) (l.length+1) ⟨0,_,by omega,by omega,h.re [0]⟩ ?_
 clear h ac wo; rintro n1 ac wo ⟨i,sv,hm1,hi,h⟩
 obtain ⟨m1,rfl⟩:∃ m,n1=m+1:=⟨n1 - 1,by omega⟩
 refine gz h <| (ai) ?_ ?_ <;> clear h ac wo <;> intro ac wo h hc1
 ·
  have hd1:=of_decide_eq_true hc1
  refine gz h <| (xa) fun b1=>(W) ?_; clear h ac wo; intro ac wo h
  refine nw h (bT (α:=U Qd) (xs:=[.tmp 17]) (vs:=[vUD (gt l i)]) [gt l i] iJ rfl rfl rfl (by decide)) rfl ?_; clear h ac wo; intro s1 ac wo _ h
  refine on2 h 2 0 rfl rfl (eA (xs:=l.take i) (ys:=[gt l i]) iJ (fun w hs=>(row_view hs 0 rfl)) rfl rfl (by rw [List.length_take]; show _+1≤_; omega)) rfl ?_; clear h ac wo; intro s2 ac wo _ h
  rw [mY (by omega)] at h
  refine gz h <| (W) ?_; clear h ac wo; intro ac wo h
  exact az ⟨m1,by omega,i+1,s2,by omega,by omega,h.re [0]⟩
 ·
  have hd1:=of_decide_eq_false hc1
  obtain rfl:i=l.length:=by omega
  rw [List.take_length] at h
  refine gz h <| (W) ?_; clear h ac wo; intro ac wo h
  exact (rt h) (h.retR 0 rfl trivial)
theorem nnums_ct (l:List (U Qd)) (lv:Value) (hl:l.length≤1000) (w0:World) (hlv:View w0 lv l):Calls Tryz.prog 177 #[lv] w0 (RetR w0 76 l True):=by
 refine enter (N:=22) (args:=[lv]) Tryz.func177 rfl rfl ?_; intro ac h
 have hlen:=hlv.len
 refine gz h <| (W) ?_; clear h ac; intro ac wo h
 replace h:=h.nilRow (α:=U Qd) 76
 refine wp_loop_ghost (fun n_ a_ w_=>∃ (i:Nat) (sv:Value),(l.length - i < n_)∧(i≤l.length)∧St w0 22 [(3,sv),(6,lv),(7,iN l.length),(8,iN i)] [.row (α:=U Qd) 76 sv (l.take i)] a_ w_) (l.length+1) ⟨0,_,by omega,by omega,h.re [0]⟩ ?_
 clear h ac wo; rintro n1 ac wo ⟨i,sv,hm1,hi,h⟩
 obtain ⟨m1,rfl⟩:∃ m,n1=m+1:=⟨n1 - 1,by omega⟩
 refine gz h <| (ai) ?_ ?_ <;> clear h ac wo <;> intro ac wo h hc1
 ·
  have hd1:=of_decide_eq_true hc1
  refine gz h <| (xa) fun b1=>(W) ?_; clear h ac wo; intro ac wo h
  refine nw h (bT (α:=U Qd) (xs:=[.tmp 17]) (vs:=[vUD (gt l i)]) [gt l i] pG rfl rfl rfl (by decide)) rfl ?_; clear h ac wo; intro s1 ac wo _ h
  refine on2 h 2 0 rfl rfl (eA (xs:=l.take i) (ys:=[gt l i]) pG (fun w hs=>(row_view hs 0 rfl)) rfl rfl (by rw [List.length_take]; show _+1≤_; omega)) rfl ?_; clear h ac wo; intro s2 ac wo _ h
  rw [mY (by omega)] at h
  refine gz h <| (W) ?_; clear h ac wo; intro ac wo h
  exact az ⟨m1,by omega,i+1,s2,by omega,by omega,h.re [0]⟩
 ·
  have hd1:=of_decide_eq_false hc1
  obtain rfl:i=l.length:=by omega
  rw [List.take_length] at h
  refine gz h <| (W) ?_; clear h ac wo; intro ac wo h
  exact (rt h) (h.retR 0 rfl trivial)
theorem qQ (l:List (U Qd)) (lv:Value) (hl:l.length < 20) (zl:All (g6 30) l) (w0:World) (hlv:View w0 lv l):Calls Tryz.prog 65 #[lv] w0 (RetT w0 76 (aF l).1 [.int .i64 (aF l).2] (All (g6 20) (aF l).1∧(aF l).1.length≤3*l.length)):=by
 refine enter (N:=16) (args:=[lv]) Tryz.func65 rfl rfl ?_; intro ac h
 have p1:=RetT.pr (eH l lv hl zl w0 hlv)
 refine gz h <| (xk rp) <| (W) ?_; clear h ac; intro ac wo h
 refine iu (xs:=l) h (cz Tryz.call168 rfl) (fun w_ hB_ hS_=>lT l lv (by omega) w_ (hlv.below hB_)) rfl ?_; clear h ac wo; intro s1 ac wo _ h
 refine gz h <| (W) ?_; clear h ac wo; intro ac wo h
 refine sg (xs:=(aF l).1) h (cz Tryz.call45 rfl) (fun w_ hB_ hS_=>eH l s1 hl zl w_ (row_view hS_ 0 rfl)) rfl ?_; clear h ac wo; intro s2 ac wo _ h
 refine gz h <| (W) ?_; clear h ac wo; intro ac wo h
 refine iu (xs:=(aF l).1) h (cz Tryz.call177 rfl) (fun w_ hB_ hS_=>nnums_ct _ s2 (by omega) w_ (row_view hS_ 0 rfl)) rfl ?_; clear h ac wo; intro s3 ac wo _ h
 refine gz h <| (W) ?_; clear h ac wo; intro ac wo h
 exact (rt h) (h.retT 0 rfl rfl p1)
end Go.Sx
namespace Go.Sx
open Go Go.RowKit Go.Proofs
set_option maxRecDepth 100000
set_option maxHeartbeats 40000000
attribute [local irreducible] Code.wp wpList Rd Step ObS Ent
attribute [local irreducible] ah ak aq an bN aQ be
attribute [local irreducible] aW aR aj aB aM ao bA aw
theorem eqi232:EqIn Tryz.prog 6 76 vUD:=eqS (c:=cUD) (fun _=>rfl) Tryz.underlying76 Tryz.stoodInHeld76 fun d x y w hd=>by
 refine Eq.trans (eqF (by decide) (bY Tryz.isAgg74 zz74 (v:=vV x.iv) rfl w) (bY Tryz.isAgg74 zz74 (v:=vV y.iv) rfl w) (eqi86 d _ _ w og) (eqF (by decide) (bY Tryz.isAgg72 zz72 (v:=vD x.f) rfl w) (bY Tryz.isAgg72 zz72 (v:=vD y.f) rfl w) (eqi53 d _ _ w og) wY)) ?_
 congr 1
 rw [decide_eq_decide]
 cases x; cases y; simp
theorem eqp232:EqP Tryz.prog 76 vUD:=EqIn.p (k:=6) rfl (c:=fun x=>(cUD x).toArray) (fun _=>rfl) Tryz.eqGuardType76 eqi232
instance yD1_9:Ep Tryz.prog 76 (U Qd) inferInstance vUD:=⟨eqp232⟩
end Go.Sx
namespace Go.Sx
open Go Go.RowKit Go.Proofs
set_option maxRecDepth 100000
set_option maxHeartbeats 40000000
attribute [local irreducible] Code.wp wpList Rd Step ObS Ent
attribute [local irreducible] ah ak aq an bN aQ be
attribute [local irreducible] aW aR aj aB aM ao bA aw cA
theorem tc (w : World) : (method (Tryz.prog.types.size + Made.depth) 275 (.agg #[]) "Check").run Tryz.prog w = .ok (407, .agg #[]) w := oL (P := Tryz.prog) (T := 275) Tryz.type275 (by kernel_rfl) uu275 w
instance yD1_10 : Mt Tryz.prog 275 (.agg #[]) "Check" 407 := ⟨tc⟩
theorem rK (w : World) : (nilAhead (Tryz.prog.types.size + Made.depth) 275 (.agg #[]) "Check").run Tryz.prog w = .ok (some false) w := lU (P := Tryz.prog) (T := 275) (f := 407) Tryz.type275 (by kernel_rfl) uu275 w
instance yD1_11 : Nl Tryz.prog 275 (.agg #[]) "Check" := ⟨rK⟩
end Go.Sx
namespace Go.Sx
open Go Go.RowKit Go.Proofs
set_option maxRecDepth 100000
set_option maxHeartbeats 40000000
attribute [local irreducible] Code.wp wpList Rd Step ObS Ent
attribute [local irreducible] ah ak aq an bN aQ be
attribute [local irreducible] aW aR aj aB aM ao bA aw
instance yD1_12 (a b c:GQ):Bu Tryz.prog 72 [0,1,2] [vQ a,vQ b,vQ c] (vD ⟨a,b,c⟩):=Bu.of xp rfl rfl
end Go.Sx
namespace Go.Sx
open Go Go.RowKit Go.Proofs
set_option maxRecDepth 100000
set_option maxHeartbeats 40000000
attribute [local irreducible] Code.wp wpList Rd Step ObS Ent
attribute [local irreducible] ah ak aq an bN aQ be
structure XI where
 neg:Bool
 b:ByteArray
structure XQ where
 n:XI
 d:XI
def cXI (x:XI):List Value:=[.bool x.neg,.string x.b]
def vXI (x:XI):Value:=.agg (cXI x).toArray
def cXQ (x:XQ):List Value:=cXI x.n++cXI x.d
def vXQ (x:XQ):Value:=.agg (cXQ x).toArray
instance yD1_13 (x:XI):Cel (vXI x) (cXI x):=⟨rfl⟩
instance yD1_14 (x:XI):Dc (cXI x) (vXI x):=⟨rfl⟩
instance yD1_15 (x:XQ):Cel (vXQ x) (cXQ x):=⟨rfl⟩
instance yD1_16 (x:XQ):Dc (cXQ x) (vXQ x):=⟨rfl⟩
structure Bad (b:ByteArray):Prop where
 pos:0 < b.size
 z:(b[0]'pos).toNat=0
section
variable {P:Program} {w0:World} {F:List (Nat×Value)}
theorem r_eqlE {x y:Operand} {t tt:TypeId} {b:ByteArray} (hx:ev F x=some (.string b)) (hy:ev F y=some (.string ⟨#[]⟩)) (hb:Bad b):Rd P w0 F [] (.binOp .eql t x y tt) (.bool false):=by
 have:=r_eqlS (P:=P) (w0:=w0) (t:=t) (tt:=tt) hx hy
 rwa [decide_eq_false (fun e=>by have:=hb.pos; rw [e] at this; exact absurd this (by decide))] at this
theorem r_neqE {x y:Operand} {t tt:TypeId} {b:ByteArray} (hx:ev F x=some (.string b)) (hy:ev F y=some (.string ⟨#[]⟩)) (hb:Bad b):Rd P w0 F [] (.binOp .neq t x y tt) (.bool true):=by
 have:=r_neqS (P:=P) (w0:=w0) (t:=t) (tt:=tt) hx hy
 rwa [decide_eq_false (fun e=>by have:=hb.pos; rw [e] at this; exact absurd this (by decide))] at this
theorem r_indexE {x ix:Operand} {t:TypeId} {b:ByteArray} {k:IntKind} (hu:∀ w,(underlying t).run P w=.ok .string w) (hx:ev F x=some (.string b)) (hi:ev F ix=some (.int k 0)) (hb:Bad b):Rd P w0 F [] (.index t x ix) (.int .u8 0):=by
 have:=nh (P:=P) (w0:=w0) (i:=0) hu hx hi hb.pos
 rwa [hb.z] at this
end
theorem aao (x:XI) (hb:Bad x.b) (w0:World):Calls Tryz.prog 94 #[vXI x] w0 (dh w0 (.int .i64 5) True):=by
 refine enter (N:=21) (args:=[vXI x]) Tryz.func94 rfl rfl ?_; intro ac h
 refine gz h <| (xb) fun b1=>(xo (hs:=by exact r_eqlE rfl rfl hb)) <| (xg (hs:=by exact fun hg=>(Rd.of_nil (r_neqE (gC rfl hg) rfl hb)).step)) <| (xg (hs:=by exact fun hg=>(Rd.of_nil (r_indexE Tryz.runUnderlying9 (gC rfl hg) rfl hb)).step)) <| (ai) ?_ ?_ <;> clear h ac <;> intro ac wo h hc1
 · refine gz h <| (W) ?_; clear h ac wo; intro ac wo h
   exact (rt h) (h.retP rfl trivial)
 · exfalso; simp at hc1
section
theorem sh25X:Sh Tryz.prog 27 XI vXI:=⟨trivial⟩
attribute [local instance 2000] sh25X
theorem badN_ct (x:XQ) (hb:Bad x.n.b) (w0:World):Calls Tryz.prog 15 #[vXQ x] w0 (dh w0 (.int .i64 5) True):=by
 refine enter (N:=31) (args:=[vXQ x]) Tryz.func15 rfl rfl ?_; intro ac h
 refine gz h <| (xb) fun b1=>(xk (aao x.n hb)) <| (xg (v:=.int .i64 0) (hs:=by exact fun hg=>False.elim (Bool.noConfusion (show false=true from hg)))) <| (ai) ?_ ?_ <;> clear h ac <;> intro ac wo h hc1
 · refine gz h <| (W) ?_; clear h ac wo; intro ac wo h
   exact (rt h) (h.retP rfl trivial)
 · exfalso; simp at hc1
theorem badD_ct (a:GI) (za:SzI 16 a) (y:XI) (hb:Bad y.b) (w0:World):Calls Tryz.prog 15 #[vXQ ⟨⟨a.neg,bs a.mag⟩,y⟩] w0 (dh w0 (.int .i64 5) True):=by
 refine enter (N:=31) (args:=[vXQ ⟨⟨a.neg,bs a.mag⟩,y⟩]) Tryz.func15 rfl rfl ?_; intro ac h
 have c1:∀ w0,Calls Tryz.prog 94 #[vXI ⟨a.neg,bs a.mag⟩] w0 (dh w0 (.int .i64 (dI a)) True):=fun w0=>jE a za w0
 refine gz h <| (xb) fun b1=>(xk c1) <| (xg (hs:=by exact fun hg=>fq enA (kk (aao y hb)))) <| (ai) ?_ ?_ <;> clear h ac <;> intro ac wo h hc1
 · refine gz h <| (W) ?_; clear h ac wo; intro ac wo h
   exact (rt h) (h.retP rfl trivial)
 · exfalso; simp at hc1
end
end Go.Sx
namespace Go.Sx
open Go Go.RowKit Go.Proofs
theorem rF:∀ {l:List UInt8} {c:UInt8},c≠0→0 < sZ (l++[c])
 | [],c,h=>by
  have h2:c.toNat≠0:=fun e=>h (by rw [← UInt8.ofNat_toNat (x:=c),e]; rfl)
  show 0 < c.toNat+256*sZ []
  omega
 | b::l,c,h=>by
  have:=rF (l:=l) h
  show 0 < b.toNat+256*sZ (l++[c])
  omega
theorem yR:∀ (l:List UInt8) (c:UInt8),c≠0→le (sZ (l++[c]))=l++[c]
 | [],c,h=>by
  have h0:=rF (l:=[]) h
  have h2:=c.toNat_lt
  have e:sZ ([]++[c])=c.toNat:=by show c.toNat+256*0=_; omega
  rw [e] at h0 ⊢
  rw [lr h0,Nat.mod_eq_of_lt h2,Nat.div_eq_of_lt h2,p7,UInt8.ofNat_toNat]; rfl
 | b::l,c,h=>by
  have h0:=rF (l:=b::l) h
  have h2:=b.toNat_lt
  have e:sZ ((b::l)++[c])=b.toNat+256*sZ (l++[c]):=rfl
  rw [lr h0,e]
  rw [show (b.toNat+256*sZ (l++[c])) % 256=b.toNat by omega,show (b.toNat+256*sZ (l++[c])) / 256=sZ (l++[c]) by omega,yR l c h,UInt8.ofNat_toNat]; rfl
theorem wb (b:ByteArray):(∃ m,b=bs m)∨Bad b:=by
 obtain ⟨⟨l⟩⟩:=b
 match l with
 | []=>exact .inl ⟨0,rfl⟩
 | c::r =>
  by_cases h:c=0
  · refine .inr ⟨by show 0 < (c::r).toArray.size; simp,?_⟩
    show c.toNat=0
    rw [h]; rfl
  · refine .inl ⟨sZ (r.reverse++[c]),?_⟩
    unfold bs
    rw [yR _ _ h]
    simp
def qX (a:GQ):XQ:=⟨⟨a.num.neg,bs a.num.mag⟩,⟨a.den.neg,bs a.den.mag⟩⟩
theorem xq_cases (x:XQ) (hs:x.n.b.size*2 ^ 16≤70368744177664):(∃ a:GQ,x=qX a)∨∀ w0,Calls Tryz.prog 15 #[vXQ x] w0 (dh w0 (.int .i64 5) True):=by
 obtain ⟨⟨s,b⟩,⟨t,d⟩⟩:=x
 rcases wb b with ⟨m,rfl⟩ | hb
 · rcases wb d with ⟨k,rfl⟩ | hd
   · exact .inl ⟨⟨⟨s,m⟩,⟨t,k⟩⟩,rfl⟩
   · refine .inr fun w0=>badD_ct ⟨s,m⟩ ?_ ⟨t,d⟩ hd w0
     unfold SzI SzB
     rw [← fm]
     exact hs
 · exact .inr fun w0=>badN_ct ⟨⟨s,b⟩,⟨t,d⟩⟩ hb w0
end Go.Sx
namespace Go.Sx
theorem qc {a:GI} (h:dI a=0):IOk a:=by
 intro e
 cases hn:a.neg with
 | false=>rfl
 | true =>
  exfalso
  unfold dI at h
  rw [decide_eq_true e,hn] at h
  have h5:(5:Int)=0:=h
  exact absurd h5 (by decide)
theorem gu {a:GQ} (h:ce a=0):QOk a:=by
 unfold ce at h
 have h1:dI a.num=0:=Classical.byContradiction fun hn=>by
  rw [show (dI a.num != 0)=true from bne_iff_ne.2 hn,Bool.true_or,cond_true] at h
  exact absurd h (by decide)
 have h2:dI a.den=0:=Classical.byContradiction fun hn=>by
  rw [show (dI a.den != 0)=true from bne_iff_ne.2 hn,Bool.or_true,cond_true] at h
  exact absurd h (by decide)
 rw [h1,h2,show (((0:Int) != 0) || ((0:Int) != 0))=false from rfl,cond_false] at h
 have i1:=qc h1
 have i2:=qc h2
 by_cases e:a.den=z0
 · exact ⟨i1,.inl e,by unfold jy; rw [if_pos e]; exact Nat.coprime_one_right _⟩
 · rw [decide_eq_false (show ¬ a.den=(⟨false,0⟩:GI) from e),cond_false] at h
   cases hc:decide (dC a.den rational_one≤0) with
   | true=>rw [hc,Bool.true_or,cond_true] at h; have h5:(5:Int)=0:=h; exact absurd h5 (by decide)
   | false =>
    cases hg:decide (aT a.num a.den=rational_one) with
    | false=>rw [hc,hg] at h; have h5:(5:Int)=0:=h; exact absurd h5 (by decide)
    | true =>
     have g1:=of_decide_eq_false hc
     have g2:=of_decide_eq_true hg
     rw [mT (b:=rational_one) i2 (mq 1),rD] at g1
     have hv:1 < fL a.den:=by
      unfold icmp at g1
      split at g1
      · omega
      · split at g1
        · omega
        · omega
     have hd:a.den.neg=false∧1 < a.den.mag:=by
      unfold fL at hv
      cases hn:a.den.neg with
      | false=>rw [hn] at hv; exact ⟨rfl,by have:(1:Int) < (a.den.mag:Int):=hv; omega⟩
      | true=>rw [hn] at hv; exfalso; have:(1:Int) < -(a.den.mag:Int):=hv; omega
     refine ⟨i1,.inr hd,?_⟩
     unfold jy
     rw [if_neg e]
     have k:=congrArg fL g2
     rw [rD] at k
     unfold aT at k
     have k2:((Nat.gcd a.num.mag a.den.mag:Nat):Int)=1:=k
     exact (by exact_mod_cast k2:Nat.gcd a.num.mag a.den.mag=1)
end Go.Sx
namespace Go.Sx
open Go Go.RowKit Go.Proofs
set_option maxRecDepth 100000
set_option maxHeartbeats 40000000
attribute [local irreducible] Code.wp wpList Rd Step ObS Ent
attribute [local irreducible] ah ak aq an bN aQ be
attribute [local irreducible] aW aR aj aB aM ao bA aw
def xsz (x:XQ):Nat:=x.n.b.size+x.d.b.size
theorem sM:Sh Tryz.prog 29 XQ vXQ:=⟨trivial⟩
theorem sN:Sh Tryz.prog 27 XI vXI:=⟨trivial⟩
section
attribute [local instance 2000] sM sN
end
end Go.Sx
namespace Go.Sx
open Go Go.RowKit Go.Proofs Go.ChangeShapes Go.WideShapes
set_option maxRecDepth 100000
section
variable {H:Type} {enc:TypeId×Value→H} {W:World} {base:Nat} {sp:Nat→Bool} {held:Bool}
def dXI (x:XI):DataW H:=.agg [.lit (.bool x.neg),.lit (.string x.b.data.toList)]
def dXQ (x:XQ):DataW H:=.agg [dXI x.n,dXI x.d]
theorem uY {fuel:Nat} {cs:List Value} {x:DataW H×List MemPlace} (h:DataW.trod enc Tryz.prog W base sp held fuel 27 cs=some x):∃ i:XI,cs=cXI i∧x.1=dXI i:=by
 obtain ⟨xs,n,_,hx,hlen,hxl,hf⟩:=DataW.trod_struct nn27 h
 rw [show Tryz.prog.cellsOf 27=2 by kernel_rfl] at hlen
 obtain ⟨c0,c1,rfl⟩:∃ c0 c1,cs=[c0,c1]:=by
  match cs,hlen with
  | [c0,c1],_=>exact ⟨_,_,rfl⟩
 have k4:Tryz.prog.cellsOf 4=1:=by kernel_rfl
 have k9:Tryz.prog.cellsOf 9=1:=by kernel_rfl
 have f0:DataW.trod enc Tryz.prog W base sp held n 4 (([c0,c1].drop 0).take (Tryz.prog.cellsOf 4))=xs[0]?:=hf 0 _ rfl
 have f1:DataW.trod enc Tryz.prog W base sp held n 9 (([c0,c1].drop 1).take (Tryz.prog.cellsOf 9))=xs[1]?:=hf 1 _ rfl
 rw [k4] at f0
 rw [k9] at f1
 obtain ⟨y0,y1,rfl⟩:∃ y0 y1,xs=[y0,y1]:=by
  have:xs.length=2:=hxl
  match xs,this with
  | [y0,y1],_=>exact ⟨_,_,rfl⟩
 obtain ⟨b,e0,d0⟩:=DataW.trod_bool nn4 f0
 obtain ⟨s,e1,d1,_⟩:=DataW.trod_string Tryz.underlying9 f1
 simp at e0 e1
 subst e0 e1
 refine ⟨⟨b,s⟩,rfl,?_⟩
 rw [hx,d0,d1]; rfl
theorem mU {fuel:Nat} {cs:List Value} {x:DataW H×List MemPlace} (h:DataW.trod enc Tryz.prog W base sp held fuel 29 cs=some x):∃ i:XQ,cs=cXQ i∧x.1=dXQ i:=by
 obtain ⟨xs,n,_,hx,hlen,hxl,hf⟩:=DataW.trod_struct nn29 h
 rw [show Tryz.prog.cellsOf 29=4 by kernel_rfl] at hlen
 have k25:Tryz.prog.cellsOf 27=2:=by kernel_rfl
 have f0:DataW.trod enc Tryz.prog W base sp held n 27 ((cs.drop 0).take (Tryz.prog.cellsOf 27))=xs[0]?:=hf 0 _ rfl
 have f1:DataW.trod enc Tryz.prog W base sp held n 27 ((cs.drop 2).take (Tryz.prog.cellsOf 27))=xs[1]?:=hf 1 _ rfl
 rw [k25] at f0 f1
 obtain ⟨y0,y1,rfl⟩:∃ y0 y1,xs=[y0,y1]:=by
  have:xs.length=2:=hxl
  match xs,this with
  | [y0,y1],_=>exact ⟨_,_,rfl⟩
 obtain ⟨i,e0,d0⟩:=uY f0
 obtain ⟨j,e1,d1⟩:=uY f1
 refine ⟨⟨i,j⟩,?_,?_⟩
 · show cs=cXI i++cXI j
   rw [← e0,← e1]
   match cs,hlen with
   | [a,b,c,d],_=>rfl
 · rw [hx]
   show DataW.agg [y0.1,y1.1]=DataW.agg [dXI i,dXI j]
   rw [d0,d1]
theorem w_xq (x:XQ):DataW.weights Tryz.prog 29 (dXQ (H:=H) x)=[x.n.b.data.toList.length,x.d.b.data.toList.length]:=by
 unfold dXQ dXI
 simp [DataW.weights,DataW.weightsEach,nn29,nn27]
end
end Go.Sx
namespace Go.Sx
open Go Go.RowKit Go.Proofs
structure XS where
 t:XQ
 x:XQ
 y:XQ
def cXS (s:XS):List Value:=cXQ s.t++(cXQ s.x++cXQ s.y)
def vXS (s:XS):Value:=.agg (cXS s).toArray
instance celXS (s:XS):Cel (vXS s) (cXS s):=⟨rfl⟩
instance dcXS (s:XS):Dc (cXS s) (vXS s):=⟨rfl⟩
def xq0:XQ:=qX oQ
instance inhXQ:Inhabited XQ:=⟨xq0⟩
instance inhXS:Inhabited XS:=⟨⟨xq0,xq0,xq0⟩⟩
theorem n7 (x:XQ):∀ c∈cXQ x,c.oneCell'=true:=by
 intro c h
 unfold cXQ cXI at h
 simp at h
 rcases h with rfl | rfl | rfl | rfl <;> rfl
instance codXQ:Cod XQ:=⟨cXQ,4,fun _=>rfl,n7,by decide⟩
instance codXS:Cod XS:=⟨cXS,12,fun _=>rfl,fun s=>dB (n7 _) (dB (n7 _) (n7 _)),by decide⟩
end Go.Sx
namespace Go.Sx
open Go Go.RowKit Go.Proofs Go.ChangeShapes Go.WideShapes
set_option maxRecDepth 100000
section
variable {H:Type} {enc:TypeId×Value→H} {W:World} {base:Nat} {sp:Nat→Bool} {held:Bool}
def lim (n:Nat):Bool:=decide (n≤reachBytes)
theorem pq {P:Program} {e:TypeId}:∀ {ds:List (DataW H)} {d:DataW H},(DataW.weightsAll P e ds).all lim=true→d∈ds→(DataW.weights P e d).all lim=true
 | x::r,d,h,hd=>by
  simp only [DataW.weightsAll,List.all_append,Bool.and_eq_true] at h
  rcases List.mem_cons.1 hd with rfl | hd
  · exact h.1
  · exact pq h.2 hd
theorem wN {α:Type} [Cod α] {P:Program} {t e:TypeId} {v:Value} {d:DataW H} {p:List MemPlace} {Q:α→Prop}
 (ht:P.underlying t=some (.slice e)) (hc:P.cellsOf e=Cod.n α) (hval:Value.okWide P W .any base t v) (h:DataW.Trod enc P W 0 sp held t v d p)
 (hw:(DataW.weights P t d).all lim=true)
 (hel:∀ (n:Nat) (cs:List Value) (x:DataW H×List MemPlace),DataW.trod enc P W 0 sp held n e cs=some x→(DataW.weights P e x.1).all lim=true→∃ s:α,cs=Cod.enc s∧Q s):∃ xs:List α,View W v xs∧∀ s∈xs,Q s:=by
 obtain ⟨fuel,hf⟩:=h
 rcases rE ht hval with rfl | ⟨g,off,len,cap,cur,el,fr,rfl,hlc,hg⟩
 · exact ⟨[],View.nilv,fun s hs=>by cases hs⟩
 · rcases DataW.trod_slice ht hf with ⟨h0,_⟩ | ⟨a,len',cap',elems,rest,n,_,hv,hx,_,_,hm,hlen,hels,_,_⟩
   · simp [Value.cells] at h0
   · simp only [Value.cells,List.cons.injEq,Value.slice.injEq,and_true] at hv
     obtain ⟨ha,rfl,rfl⟩:=hv
     cases ha
     rw [hc] at hels
     have hd:d=.slice (elems.map (·.1)) (rest.map (·.1)):=congrArg Prod.fst hx
     have hwa:(DataW.weightsAll P e (elems.map (·.1))).all lim=true:=by
      rw [hd] at hw
      simp only [DataW.weights,ht,List.all_cons,List.all_append,Bool.and_eq_true] at hw
      exact hw.2.1
     have key:∀ i,i < len→∃ s:α,(∀ j,j < Cod.n α→cur[off+(i*Cod.n α+j)]?=(Cod.enc s)[j]?)∧Q s:=by
      intro i hi
      have h1:=hels i hi
      have hi2:i < elems.length:=by omega
      rw [List.getElem?_eq_getElem hi2,Option.bind_eq_some_iff] at h1
      obtain ⟨cs,h2,h3⟩:=h1
      obtain ⟨s,rfl,hQ⟩:=hel _ _ _ h3 (pq hwa (List.mem_map_of_mem (List.getElem_mem hi2)))
      refine ⟨s,fun j hj=>?_,hQ⟩
      obtain ⟨_,_,h4⟩:=World.cells?_some h2
      have h5:=h4 j hj
      rw [Addr.add_add] at h5
      rw [← h5]
      unfold World.cell? Addr.add
      by_cases e0:i*Cod.n α+j=0
      · rw [if_pos e0,e0]; simp [hg]
      · rw [if_neg e0]; simp [hg]
     obtain ⟨xs,hx1,hx2⟩:=uB key
     refine ⟨xs,⟨⟨by omega,by show xs.length≤cap; omega⟩,.inr ⟨g,off,cap,cur,el,fr,by rw [hx1],hg,fun j hj=>?_⟩⟩,fun s hs=>?_⟩
     · rw [bV] at hj
       have hp:=Cod.pos (α:=α)
       have hi:j / Cod.n α < xs.length:=by
        rw [Nat.div_lt_iff_lt_mul hp]; exact hj
       have e2:=(hx2 (j / Cod.n α) _ (List.getElem?_eq_getElem hi)).1 (j % Cod.n α) (Nat.mod_lt _ hp)
       have e3:=rV (xs:=xs) (List.getElem?_eq_getElem hi) (Nat.mod_lt j hp)
       have e4:j / Cod.n α*Cod.n α+j % Cod.n α=j:=Nat.div_add_mod' j (Cod.n α)
       rw [e4] at e2 e3
       rw [e2,e3]
     · obtain ⟨i,hi,rfl⟩:=List.getElem_of_mem hs
       exact (hx2 i _ (List.getElem?_eq_getElem hi)).2
theorem xq_w {x:XQ} (h:(DataW.weights Tryz.prog 29 (dXQ (H:=H) x)).all lim=true):xsz x≤9223372036854775807:=by
 rw [w_xq] at h
 unfold lim at h
 simp only [List.all_cons,List.all_nil,Bool.and_true,Bool.and_eq_true,decide_eq_true_eq] at h
 have e1:x.n.b.size=x.n.b.data.toList.length:=rfl
 have e2:x.d.b.size=x.d.b.data.toList.length:=rfl
 unfold reachBytes at h
 unfold xsz
 omega
end
end Go.Sx
namespace Go.Sx
open Go Go.RowKit Go.Proofs
structure XR where
 p:XQ
 r:XQ
 neg:Bool
structure XV where
 lo:XR
 hi:XR
 openLo:Bool
 openHi:Bool
structure XL where
 x0:XQ
 x1:XQ
 y0:XQ
 y1:XQ
structure XU where
 iv:XV
 f:XL
def cXR (x:XR):List Value:=cXQ x.p++(cXQ x.r++[.bool x.neg])
def vXR (x:XR):Value:=.agg (cXR x).toArray
def cXV (x:XV):List Value:=cXR x.lo++(cXR x.hi++[.bool x.openLo,.bool x.openHi])
def vXV (x:XV):Value:=.agg (cXV x).toArray
def cXL (x:XL):List Value:=cXQ x.x0++(cXQ x.x1++(cXQ x.y0++cXQ x.y1))
def vXL (x:XL):Value:=.agg (cXL x).toArray
def cXU (x:XU):List Value:=cXV x.iv++cXL x.f
def vXU (x:XU):Value:=.agg (cXU x).toArray
instance celXR (x:XR):Cel (vXR x) (cXR x):=⟨rfl⟩
instance celXV (x:XV):Cel (vXV x) (cXV x):=⟨rfl⟩
instance celXL (x:XL):Cel (vXL x) (cXL x):=⟨rfl⟩
instance celXU (x:XU):Cel (vXU x) (cXU x):=⟨rfl⟩
instance dcXR (x:XR):Dc (cXR x) (vXR x):=⟨rfl⟩
instance dcXV (x:XV):Dc (cXV x) (vXV x):=⟨rfl⟩
instance dcXL (x:XL):Dc (cXL x) (vXL x):=⟨rfl⟩
instance dcXU (x:XU):Dc (cXU x) (vXU x):=⟨rfl⟩
instance inhXU:Inhabited XU:=⟨⟨⟨⟨xq0,xq0,false⟩,⟨xq0,xq0,false⟩,false,false⟩,⟨xq0,xq0,xq0,xq0⟩⟩⟩
theorem one_b (b:Bool):∀ c∈[Value.bool b],c.oneCell'=true:=fun c h=>by rw [List.mem_singleton.1 h]; rfl
theorem one_bb (a b:Bool):∀ c∈[Value.bool a,.bool b],c.oneCell'=true:=fun c h=>by
 rcases List.mem_cons.1 h with rfl | h
 · rfl
 · rw [List.mem_singleton.1 h]; rfl
theorem oneXR (x:XR):∀ c∈cXR x,c.oneCell'=true:=dB (n7 _) (dB (n7 _) (one_b _))
theorem oneXV (x:XV):∀ c∈cXV x,c.oneCell'=true:=dB (oneXR _) (dB (oneXR _) (one_bb _ _))
theorem oneXL (x:XL):∀ c∈cXL x,c.oneCell'=true:=dB (n7 _) (dB (n7 _) (dB (n7 _) (n7 _)))
instance codXU:Cod XU:=⟨cXU,36,fun _=>rfl,fun x=>dB (oneXV _) (oneXL _),by decide⟩
def rX (a:GR):XR:=⟨qX a.p,qX a.r,a.neg⟩
def ivX (a:Iv):XV:=⟨rX a.lo,rX a.hi,a.openLo,a.openHi⟩
theorem ivX_v (a:Iv):vXV (ivX a)=vV a:=rfl
def x8 (u:XU):List XQ:=[u.iv.lo.p,u.iv.lo.r,u.iv.hi.p,u.iv.hi.r,u.f.x0,u.f.x1,u.f.y0,u.f.y1]
theorem x4:Sh Tryz.prog 46 XR vXR:=⟨trivial⟩
theorem xZ:Sh Tryz.prog 74 XV vXV:=⟨trivial⟩
end Go.Sx
namespace Go.Sx
open Go Go.RowKit Go.Proofs
set_option maxRecDepth 100000
set_option maxHeartbeats 40000000
attribute [local irreducible] Code.wp wpList Rd Step ObS Ent
attribute [local irreducible] ah ak aq an bN aQ be
attribute [local irreducible] aW aR aj aB aM ao bA aw
theorem slt38X:SlT Tryz.prog 234 29 4 48 (cQ oQ):=⟨Tryz.underlying234,Tryz.t29,_,Tryz.type29,rfl,rfl,rfl,rfl,rfl,by decide,by decide⟩
section
attribute [local instance 2000] sM sN
end
end Go.Sx
namespace Go.Sx
open Go Go.RowKit Go.Proofs
set_option maxRecDepth 100000
set_option maxHeartbeats 40000000
attribute [local irreducible] Code.wp wpList Rd Step ObS Ent
attribute [local irreducible] ah ak aq an bN aQ be
attribute [local irreducible] aW aR aj aB aM ao bA aw cA
section
attribute [local instance 2000] sM sN x4 xZ
theorem ql {n:Nat} {R:Nat→Int→Prop} (h:∀ k,k < n→∃ e,R k e):∃ E:Nat→Int,∀ k,k < n→R k (E k) :=
 ⟨fun k=>if hk:k < n then Classical.choose (h k hk) else 0,fun k hk=>by dsimp only; rw [dif_pos hk]; exact Classical.choose_spec (h k hk)⟩
end
end Go.Sx
namespace Go.Sx
open Go Go.RowKit Go.Proofs
set_option maxRecDepth 100000
set_option maxHeartbeats 40000000
attribute [local irreducible] Code.wp wpList Rd Step ObS Ent
attribute [local irreducible] ah ak aq an bN aQ be
attribute [local irreducible] aW aR aj aB aM ao bA aw cA
theorem vO {α:Type} [Inhabited α] {l m:List α} (hn:l.length=m.length) (h:∀ j,j < l.length→gt l j=gt m j):l=m:=by
 refine List.ext_getElem hn fun i h1 h2=>?_
 have:=h i h1
 rw [gU h1,gU h2] at this
 exact this
section
attribute [local instance 2000] sM sN x4 xZ
end
end Go.Sx
namespace Go.Sx
open Go Go.RowKit Go.Proofs
set_option maxRecDepth 100000
set_option maxHeartbeats 40000000
attribute [local irreducible] Code.wp wpList Rd Step ObS Ent
attribute [local irreducible] ah ak aq an bN aQ be
attribute [local irreducible] aW aR aj aB aM ao bA aw
instance un38:Un Tryz.prog 234 (.slice 29):=⟨Tryz.runUnderlying234⟩
def x3 (s:XS):List XQ:=[s.t,s.x,s.y]
section
attribute [local instance 2000] sM sN
end
end Go.Sx
namespace Go.Sx
open Go Go.RowKit Go.Proofs Go.ChangeShapes Go.WideShapes
set_option maxRecDepth 100000
section
variable {H:Type} {enc:TypeId×Value→H} {W:World} {base:Nat} {sp:Nat→Bool} {held:Bool}
def dXR (x:XR):DataW H:=.agg [dXQ x.p,dXQ x.r,.lit (.bool x.neg)]
def dXV (x:XV):DataW H:=.agg [dXR x.lo,dXR x.hi,.lit (.bool x.openLo),.lit (.bool x.openHi)]
theorem uX {fuel:Nat} {cs:List Value} {x:DataW H×List MemPlace} (h:DataW.trod enc Tryz.prog W base sp held fuel 46 cs=some x):∃ i:XR,cs=cXR i∧x.1=dXR i:=by
 obtain ⟨xs,n,_,hx,hlen,hxl,hf⟩:=DataW.trod_struct nn46 h
 rw [show Tryz.prog.cellsOf 46=9 by kernel_rfl] at hlen
 have k27:Tryz.prog.cellsOf 29=4:=by kernel_rfl
 have k4:Tryz.prog.cellsOf 4=1:=by kernel_rfl
 have f0:DataW.trod enc Tryz.prog W base sp held n 29 ((cs.drop 0).take (Tryz.prog.cellsOf 29))=xs[0]?:=hf 0 _ rfl
 have f1:DataW.trod enc Tryz.prog W base sp held n 29 ((cs.drop 4).take (Tryz.prog.cellsOf 29))=xs[1]?:=hf 1 _ rfl
 have f2:DataW.trod enc Tryz.prog W base sp held n 4 ((cs.drop 8).take (Tryz.prog.cellsOf 4))=xs[2]?:=hf 2 _ rfl
 rw [k27] at f0 f1
 rw [k4] at f2
 obtain ⟨y0,y1,y2,rfl⟩:∃ y0 y1 y2,xs=[y0,y1,y2]:=by
  have:xs.length=3:=hxl
  match xs,this with
  | [y0,y1,y2],_=>exact ⟨_,_,_,rfl⟩
 obtain ⟨i,e0,d0⟩:=mU f0
 obtain ⟨j,e1,d1⟩:=mU f1
 obtain ⟨b,e2,d2⟩:=DataW.trod_bool nn4 f2
 refine ⟨⟨i,j,b⟩,?_,?_⟩
 · show cs=cXQ i++(cXQ j++[.bool b])
   rw [← e0,← e1]
   match cs,hlen,e2 with
   | [a,b',c,d,e,f,g,h,i],_,e2=>simp at e2; simp [e2]
 · rw [hx]
   show DataW.agg [y0.1,y1.1,y2.1]=DataW.agg [dXQ i,dXQ j,.lit (.bool b)]
   rw [d0,d1,d2]
theorem xv_cells {fuel:Nat} {cs:List Value} {x:DataW H×List MemPlace} (h:DataW.trod enc Tryz.prog W base sp held fuel 74 cs=some x):∃ i:XV,cs=cXV i∧x.1=dXV i:=by
 obtain ⟨xs,n,_,hx,hlen,hxl,hf⟩:=DataW.trod_struct nn74 h
 rw [show Tryz.prog.cellsOf 74=20 by kernel_rfl] at hlen
 have k71:Tryz.prog.cellsOf 46=9:=by kernel_rfl
 have k4:Tryz.prog.cellsOf 4=1:=by kernel_rfl
 have f0:DataW.trod enc Tryz.prog W base sp held n 46 ((cs.drop 0).take (Tryz.prog.cellsOf 46))=xs[0]?:=hf 0 _ rfl
 have f1:DataW.trod enc Tryz.prog W base sp held n 46 ((cs.drop 9).take (Tryz.prog.cellsOf 46))=xs[1]?:=hf 1 _ rfl
 have f2:DataW.trod enc Tryz.prog W base sp held n 4 ((cs.drop 18).take (Tryz.prog.cellsOf 4))=xs[2]?:=hf 2 _ rfl
 have f3:DataW.trod enc Tryz.prog W base sp held n 4 ((cs.drop 19).take (Tryz.prog.cellsOf 4))=xs[3]?:=hf 3 _ rfl
 rw [k71] at f0 f1
 rw [k4] at f2 f3
 obtain ⟨y0,y1,y2,y3,rfl⟩:∃ y0 y1 y2 y3,xs=[y0,y1,y2,y3]:=by
  have:xs.length=4:=hxl
  match xs,this with
  | [y0,y1,y2,y3],_=>exact ⟨_,_,_,_,rfl⟩
 obtain ⟨i,e0,d0⟩:=uX f0
 obtain ⟨j,e1,d1⟩:=uX f1
 obtain ⟨a,e2,d2⟩:=DataW.trod_bool nn4 f2
 obtain ⟨b,e3,d3⟩:=DataW.trod_bool nn4 f3
 refine ⟨⟨i,j,a,b⟩,?_,?_⟩
 · show cs=cXR i++(cXR j++[.bool a,.bool b])
   rw [← e0,← e1]
   have h1:cs=cs.take 9++((cs.drop 9).take 9++((cs.drop 18).take 1++(cs.drop 19).take 1)):=by
    match cs,hlen with
    | [c0,c1,c2,c3,c4,c5,c6,c7,c8,c9,c10,c11,c12,c13,c14,c15,c16,c17,c18,c19],_=>rfl
   rw [e2,e3] at h1
   rw [List.drop_zero]
   exact h1
 · rw [hx]
   show DataW.agg [y0.1,y1.1,y2.1,y3.1]=DataW.agg [dXR i,dXR j,.lit (.bool a),.lit (.bool b)]
   rw [d0,d1,d2,d3]
theorem w_xr (x:XR):DataW.weights Tryz.prog 46 (dXR (H:=H) x)=DataW.weights Tryz.prog 29 (dXQ (H:=H) x.p)++DataW.weights Tryz.prog 29 (dXQ (H:=H) x.r):=by
 unfold dXR
 simp [DataW.weights,DataW.weightsEach,nn46]
theorem w_xv (x:XV):DataW.weights Tryz.prog 74 (dXV (H:=H) x)=DataW.weights Tryz.prog 46 (dXR (H:=H) x.lo)++DataW.weights Tryz.prog 46 (dXR (H:=H) x.hi):=by
 unfold dXV
 simp [DataW.weights,DataW.weightsEach,nn74]
end
end Go.Sx
namespace Go.Sx
theorem isq_mm (m:Nat):isq (m*m)=m:=by
 obtain ⟨h1,h2⟩:=qV (m*m)
 have a:isq (m*m)≤m:=Nat.le_of_not_lt fun h=>by
  have:=Nat.mul_self_lt_mul_self h
  omega
 have b:m≤isq (m*m):=Nat.le_of_not_lt fun h=>by
  have:=Nat.mul_le_mul (show isq (m*m)+1≤m from h) (show isq (m*m)+1≤m from h)
  omega
 omega
theorem vH {a:GI} {m:Nat} (hn:a.neg=false) (h:a.mag=m*m):(a7 a).2=true:=by
 unfold a7
 rw [hn,cond_false]
 have e:bM a.mag=m:=by unfold bM; rw [h,isq_mm]
 rw [e,show ee m m=m*m by unfold ee; rfl,h,decide_eq_true rfl]
 rfl
theorem vd {r:GQ} (hr:QOk r) {q:Rat} (h:q*q=cK r):(bP r).2=true:=by
 have hd:=hr.pos
 have hc:Nat.Coprime r.num.mag (jy r):=hr.2.2
 have hq:=q.den_pos
 have hqc:Nat.Coprime q.num.natAbs q.den:=q.reduced
 have n0:fL r.num=((r.num.mag:Nat):Int):=by
  have h0:0≤cK r:=by rw [← h]; exact mK q
  have h3:cK r*(jy r:Rat)=(fL r.num:Rat):=by unfold cK; rw [Rat.div_mul_cancel (rA hr)]
  have h4:(0:Rat)≤(fL r.num:Rat):=by
   rw [← h3]; exact iq h0 (Rat.natCast_le_natCast.2 (Nat.zero_le (jy r)))
  have h5:0≤fL r.num:=by have:((0:Int):Rat)≤(fL r.num:Rat):=h4; exact Rat.intCast_le_intCast.1 this
  have:=ie r.num; omega
 have e:q.num.natAbs*q.num.natAbs*jy r=r.num.mag*(q.den*q.den):=by
  have e1:q=(q.num:Rat) / (q.den:Rat):=by
   have:=Rat.num_divInt_den q
   rw [Rat.divInt_eq_div] at this
   exact this.symm
  have hb:=kq hq
  have hdd:=kq hd
  have e2:(q.num:Rat)*(q.num:Rat)*(jy r:Rat)=(fL r.num:Rat)*((q.den:Rat)*(q.den:Rat)):=by
   have:cK r=(fL r.num:Rat) / (jy r:Rat):=rfl
   rw [this] at h
   rw [e1] at h
   generalize (q.num:Rat)=x at *
   generalize (q.den:Rat)=y at *
   grind
  have e3:q.num*q.num*((jy r:Nat):Int)=fL r.num*(((q.den:Nat):Int)*((q.den:Nat):Int)):=by exact_mod_cast e2
  have e4:=congrArg Int.natAbs e3
  rw [Int.natAbs_mul,Int.natAbs_mul,Int.natAbs_mul,Int.natAbs_mul,ie] at e4
  simpa using e4
 have c2:Nat.Coprime (q.num.natAbs*q.num.natAbs) (q.den*q.den):=Nat.Coprime.mul_left (Nat.Coprime.mul_right hqc hqc) (Nat.Coprime.mul_right hqc hqc)
 have d1:jy r ∣ q.den*q.den:=Nat.Coprime.dvd_of_dvd_mul_left hc.symm (m:=r.num.mag) ⟨q.num.natAbs*q.num.natAbs,by rw [← e,Nat.mul_comm]⟩
 have d2:q.den*q.den ∣ jy r:=Nat.Coprime.dvd_of_dvd_mul_left c2.symm (m:=q.num.natAbs*q.num.natAbs) ⟨r.num.mag,by rw [e,Nat.mul_comm]⟩
 have hdd:jy r=q.den*q.den:=Nat.dvd_antisymm d1 d2
 have hnn:r.num.mag=q.num.natAbs*q.num.natAbs:=by
  rw [hdd] at e
  exact (Nat.eq_of_mul_eq_mul_right (Nat.mul_pos hq hq) e).symm
 obtain ⟨v1,v2⟩:=ks hr
 have hdm:(aa r).mag=jy r:=by
  have:=ie (aa r); rw [v1] at this; simpa using this.symm
 have hdn:(aa r).neg=false:=by
  cases hh:(aa r).neg with
  | false=>rfl
  | true =>
   exfalso
   unfold fL at v1
   rw [hh,hdm] at v1
   have:-((jy r:Nat):Int)=((jy r:Nat):Int):=v1
   omega
 have hnf:r.num.neg=false:=by
  cases hh:r.num.neg with
  | false=>rfl
  | true =>
   have hz:r.num.mag=0:=by
    unfold fL at n0
    rw [hh] at n0
    have:-((r.num.mag:Nat):Int)=((r.num.mag:Nat):Int):=n0
    omega
   have:=hr.1 hz
   rw [hh] at this; exact this
 unfold bP
 rw [vH hnf hnn,vH hdn (hdm.trans hdd)]
 rfl
theorem ji {x:GR} (h:dO x=0):ROk x:=by
 unfold dO at h
 have h1:ce x.p=0:=Classical.byContradiction fun hn=>by
  rw [show (ce x.p != 0)=true from bne_iff_ne.2 hn,Bool.true_or,cond_true] at h
  exact absurd h (by decide)
 have h2:ce x.r=0:=Classical.byContradiction fun hn=>by
  rw [show (ce x.r != 0)=true from bne_iff_ne.2 hn,Bool.or_true,cond_true] at h
  exact absurd h (by decide)
 have op:=gu h1
 have or_:=gu h2
 rw [h1,h2,show (((0:Int) != 0) || ((0:Int) != 0))=false from rfl,cond_false,jQ or_] at h
 refine ⟨op,or_,?_⟩
 have tri:cK x.r < 0∨cK x.r=0∨0 < cK x.r:=by
  by_cases a:cK x.r < 0
  · exact .inl a
  · by_cases b:cK x.r=0
    · exact .inr (.inl b)
    · exact .inr (.inr (by grind))
 rcases tri with e | e | e
 · exfalso
   rw [show rsgn (cK x.r)=-1 by unfold rsgn; rw [if_pos e]] at h
   have h5:(5:Int)=0:=h
   exact absurd h5 (by decide)
 · left
   rw [e,show rsgn (0:Rat)=0 by decide +kernel] at h
   refine ⟨e,?_⟩
   cases hn:x.neg with
   | false=>rfl
   | true=>rw [hn] at h; have h5:(5:Int)=0:=h; exact absurd h5 (by decide)
 · right
   refine ⟨e,fun q hq=>?_⟩
   rw [show rsgn (cK x.r)=1 by unfold rsgn; rw [if_neg (by grind),if_pos e],vd or_ hq] at h
   have h5:(5:Int)=0:=h
   exact absurd h5 (by decide)
end Go.Sx
namespace Go.Sx
theorem le_pw2 {n m k:Nat} (h:n < 2 ^ m) (hk:m≤8*k):(le n).length≤k:=by
 refine (cS k n).2 (Nat.lt_of_lt_of_le h ?_)
 rw [show (256:Nat)=2 ^ 8 from rfl,← Nat.pow_mul]
 exact Nat.pow_le_pow_right (by decide) hk
theorem Bq.szk2 {m:Nat} {q:GQ} (h:Bq m q) (k:Nat) (hk:m≤8*k) {j:Nat} (hj:k*2 ^ j≤70368744177664):SzQ j q :=
 ⟨Nat.le_trans (Nat.mul_le_mul_right _ (le_pw2 h.mag.1 hk)) hj,Nat.le_trans (Nat.mul_le_mul_right _ (le_pw2 h.mag.2 hk)) hj⟩
theorem kq02:(default:GR)=aQ (ak 0):=by
 have e:aw 0=⟨false,0⟩:=vG (mq 0) (fun _=>rfl) (by rw [mS]; rfl)
 have h:ak 0=⟨⟨false,0⟩,⟨false,0⟩⟩:=by unfold ak; rw [e]
 rw [h]
 unfold aQ
 rfl
def BD (m:Nat) (f:Qd):Prop:=Bq m f.c0∧Bq m f.c1∧Bq m f.c2
theorem BD.ok {m:Nat} {f:Qd} (h:BD m f):DOk f:=⟨h.1.1,h.2.1.1,h.2.2.1⟩
theorem BD.le {m n:Nat} {f:Qd} (h:BD m f) (hn:m≤n):BD n f:=⟨h.1.le hn,h.2.1.le hn,h.2.2.le hn⟩
theorem BD.sz {m:Nat} {f:Qd} (h:BD m f) (hm:m≤1800):SzD 30 f:=⟨(h.1.le hm).szk2 225 (by decide) (by decide),(h.2.1.le hm).szk2 225 (by decide) (by decide),(h.2.2.le hm).szk2 225 (by decide) (by decide)⟩
def DQ (f:Qd):Prop:=BD 160 f∨(f.c2=zQ∧BD 802 f)∨(f.c1=zQ∧f.c2=zQ∧BD 1800 f)
theorem DQ.bd {f:Qd} (h:DQ f):BD 1800 f:=by
 rcases h with h | ⟨_,h⟩ | ⟨_,_,h⟩
 · exact h.le (by decide)
 · exact h.le (by decide)
 · exact h
theorem DQ.ok {f:Qd} (h:DQ f):DOk f:=h.bd.ok
theorem Bq.as {m M:Nat} {p q:GQ} (h:Bq m p) (hM:m≤M) (hq:QOk q) (e:cK q=cK p):Bq M q:=by
 rw [jp hq h.1 e]; exact h.le hM
theorem red_rat {f:Qd} {t:GR} (hf:DOk f) (ht:TOk t) (e:t.r=zQ):(bh f t).c1=zQ∧(bh f t).c2=zQ∧QOk (bh f t).c0∧cK (bh f t).c0=cK f.c0+cK t.p*(cK f.c1+cK t.p*cK f.c2):=by
 obtain ⟨k1,k2,k3,k4⟩:=iW hf ht
 unfold lv at k2 k3
 rw [if_pos e] at k2 k3
 exact ⟨jp k1.2.1 jK.1 (by rw [k3,jK.2]),k4,k1.1,k2⟩
theorem red_irr {f:Qd} {t:GR} (hf:DOk f) (ht:TOk t) (e:t.r≠zQ):(bh f t).c2=zQ∧QOk (bh f t).c0∧QOk (bh f t).c1∧cK (bh f t).c0=cK f.c0+cK f.c2*(cK t.r - cK t.p*cK t.p)∧cK (bh f t).c1=cK f.c1+(cK f.c2+cK f.c2)*cK t.p:=by
 obtain ⟨k1,k2,k3,k4⟩:=iW hf ht
 unfold lv at k2 k3
 rw [if_neg e] at k2 k3
 exact ⟨k4,k1.1,k1.2.1,k2,k3⟩
theorem DQ.red {f:Qd} {t:GR} (h:DQ f) (hp:Bq 160 t.p) (hr:Bq 160 t.r):DQ (bh f t):=by
 have ht:TOk t:=⟨hp.1,hr.1⟩
 have hz:∀ {m},0 < m→Bq m zQ:=Bq.zero
 by_cases e:t.r=zQ
 · obtain ⟨a,b,c,d⟩:=red_rat h.ok ht e
   refine .inr (.inr ⟨a,b,?_,?_,?_⟩)
   · rcases h with h | ⟨h2,h⟩ | ⟨h1,h2,h⟩
     · have k1:=h.1.add (hp.mul (h.2.1.add (hp.mul h.2.2)))
       refine k1.as (by decide) c ?_
       rw [d,(jC h.1.1 (gp hp.1 (jC h.2.1.1 (gp hp.1 h.2.2.1).1).1).1).2,(gp hp.1 (jC h.2.1.1 (gp hp.1 h.2.2.1).1).1).2,(jC h.2.1.1 (gp hp.1 h.2.2.1).1).2,(gp hp.1 h.2.2.1).2]
     · have k1:=h.1.add (hp.mul h.2.1)
       refine k1.as (by decide) c ?_
       rw [d,h2,jK.2,(jC h.1.1 (gp hp.1 h.2.1.1).1).2,(gp hp.1 h.2.1.1).2]; grind
     · refine h.1.as (Nat.le_refl _) c ?_
       rw [d,h1,h2,jK.2]; grind
   · rw [a]; exact hz (by decide)
   · rw [b]; exact hz (by decide)
 · obtain ⟨a,b,c,d,g⟩:=red_irr h.ok ht e
   rcases h with h | ⟨h2,h⟩ | ⟨h1,h2,h⟩
   · refine .inr (.inl ⟨a,?_,?_,by rw [a]; exact hz (by decide)⟩)
     · have p2:=gp hp.1 hp.1
       have s:=pC hr.1 p2.1
       have m:=gp h.2.2.1 s.1
       have k1:=h.1.add (h.2.2.mul (hr.sub (hp.mul hp)))
       refine k1.as (by decide) b ?_
       rw [d,(jC h.1.1 m.1).2,m.2,s.2,p2.2]
     · have p2:=jC h.2.2.1 h.2.2.1
       have m:=gp p2.1 hp.1
       have k1:=h.2.1.add ((h.2.2.add h.2.2).mul hp)
       refine k1.as (by decide) c ?_
       rw [g,(jC h.2.1.1 m.1).2,m.2,p2.2]
   · refine .inr (.inl ⟨a,?_,?_,by rw [a]; exact hz (by decide)⟩)
     · exact h.1.as (Nat.le_refl _) b (by rw [d,h2,jK.2]; grind)
     · exact h.2.1.as (Nat.le_refl _) c (by rw [g,h2,jK.2]; grind)
   · have e1:(bh f t).c1=zQ:=jp c jK.1 (by rw [g,h1,h2,jK.2]; grind)
     refine .inr (.inr ⟨e1,a,?_,by rw [e1]; exact hz (by decide),by rw [a]; exact hz (by decide)⟩)
     exact h.1.as (Nat.le_refl _) b (by rw [d,h2,jK.2]; grind)
section
variable [K:Key]
class KeyW:Prop where
 b:∀ t:GR,Tm t→Bq 160 t.p∧Bq 160 t.r
variable [KW:KeyW]
theorem yp:Ru DQ bc aO where
 refl t ht f hf:=quads_ru.refl t ht f hf.ok
 symm t ht f g hf hg h:=quads_ru.symm t ht f g hf.ok hg.ok h
 trans t ht f g k hf hg hk h h':=quads_ru.trans t ht f g k hf.ok hg.ok hk.ok h h'
 redD t ht f hf:=by
  rw [show aO f t=bh f t by unfold aO; rfl]
  exact hf.red (KeyW.b t ht).1 (KeyW.b t ht).2
 redS t ht f hf:=quads_ru.redS t ht f hf.ok
 redR t ht f hf:=quads_ru.redR t ht f hf.ok
theorem wR {u:List (U Qd)} (hW:∀ x∈u,Wv x.iv∧DQ x.f):NF bF bc aO (dY u)∧∀ x∈dY u,DQ x.f:=by
 have hE:=(rZ (l:=u.map (·.iv)) (fun i hi=>by obtain ⟨x,hx,rfl⟩:=List.mem_map.1 hi; exact (hW x hx).1.1)).1
 unfold dY
 rw [nK,tN,rg]
 have hA:=pz (z:=(default:Qd)) (u:=u) hE
 have hl:(je (default:Qd) u (o7 (u.map (·.iv)))).length=(gV (default:Qd) (o7 (u.map (·.iv)))).length:=by unfold je; rw [List.length_map]
 refine vt yp (fun a b=>(mI a b).1) hA (fun i hi=>?_) (fun i hi hh=>?_) _ (Nat.le_refl _)
 · rw [mP hi,(gZ u _).1,(gZ u _).2.2]
   have:=aam (z:=(default:Qd)) hE (a:=gt (gV default (o7 (u.map (·.iv)))) i) (by rw [gU (hl ▸ hi)]; exact List.getElem_mem _)
   exact ⟨this.1,this.2.1⟩
 · rw [mP hi] at hh ⊢
   rcases tK u _ hh with ⟨h1,_⟩ | ⟨x,hx,h2⟩
   · have hb:gt (gV (default:Qd) (o7 (u.map (·.iv)))) i∈gV (default:Qd) (o7 (u.map (·.iv))):=by rw [gU (hl ▸ hi)]; exact List.getElem_mem _
     rcases lc.1 hb with ⟨t,_,e⟩ | ⟨t,t',_,e⟩
     · rw [e] at h1; cases h1
     · rw [e] at h1; cases h1
   · rw [h2]; exact (hW x hx).2
theorem nrmS {n:List (U Qd)} (hW:∀ x∈n,Wv x.iv∧DQ x.f):((aF n).2≠0→(aF n).1=[])∧((aF n).2=0→(∀ x∈(aF n).1,Wv x.iv∧DQ x.f)∧((aF n).1.length≤256→cL (aF n).1=0)):=by
 by_cases hD:n.Pairwise fun a b=>Dj a.iv b.iv
 · rw [qu (fun a b=>(mI a b).1) (List.Perm.refl n) (fun x hx=>(hW x hx).1) hD]
   obtain ⟨a,b⟩:=wR hW
   exact ⟨fun h=>absurd rfl h,fun _=>⟨fun x hx=>⟨a.wv x hx,b x hx⟩,fun hl=>check_nf hl a fun x hx=>(b x hx).ok⟩⟩
 · rw [pU (fun x hx=>(hW x hx).1) hD]
   exact ⟨fun _=>rfl,fun h=>absurd h (by decide)⟩
end
def TmW (t:GR):Prop:=ROk t∧Bq 160 t.p∧Bq 160 t.r
theorem tmw0:TmW (default:GR):=by
 rw [kq02]
 refine ⟨fr_ok (Bq.int 0 (by decide) (by decide:0 < 160)).1,?_,?_⟩
 · exact Bq.int 0 (by decide) (by decide)
 · exact Bq.zero (by decide)
abbrev keyW (l:List GR) (h:∀ x∈l,TmW x) (hn:l.length < 1000):Key where
 l:=default::l
 ok:=fun x hx=>by
  rcases List.mem_cons.1 hx with rfl | hx
  · exact tmw0.1
  · exact (h x hx).1
 sz:=by rw [List.length_cons]; omega
 z:=List.mem_cons_self
 rt:=fun x _=>trivial
 szr:=fun x hx=>by
  have:TmW x:=by
   rcases List.mem_cons.1 hx with rfl | hx
   · exact tmw0
   · exact h x hx
  exact ⟨di (this.2.1.sz (by decide)) (by decide),di (this.2.2.sz (by decide)) (by decide)⟩
theorem wt {l:List GR} {h:∀ x∈l,TmW x} {hn:l.length < 1000} {x:GR}:@Tm (keyW l h hn) x↔x=default∨x∈l:=by
 letI:=keyW l h hn
 rw [← Tm.iff,decide_eq_true_iff]; exact List.mem_cons
theorem kwW (l:List GR) (h:∀ x∈l,TmW x) (hn:l.length < 1000):@KeyW (keyW l h hn):=@KeyW.mk (keyW l h hn) fun t ht=>by
 rcases wt.1 ht with rfl | ht
 · exact tmw0.2
 · exact (h t ht).2
theorem py {i:Iv} (h:bI i=0):ROk i.lo∧ROk i.hi∧bW (aJ i) (aI i) < 0:=by
 unfold bI at h
 have h1:dO i.lo=0:=Classical.byContradiction fun hn=>by
  rw [show (dO i.lo != 0)=true from bne_iff_ne.2 hn,Bool.true_or,cond_true] at h
  exact absurd h (by decide)
 have h2:dO i.hi=0:=Classical.byContradiction fun hn=>by
  rw [show (dO i.hi != 0)=true from bne_iff_ne.2 hn,Bool.or_true,cond_true] at h
  exact absurd h (by decide)
 refine ⟨ji h1,ji h2,Classical.byContradiction fun hn=>?_⟩
 rw [h1,h2,show (((0:Int) != 0) || ((0:Int) != 0))=false from rfl,cond_false,decide_eq_true (by omega),cond_true] at h
 exact absurd h (by decide)
section
variable [K:Key]
theorem wv_conv {i:Iv} (h:bI i=0) (hv:Tv i):Wv i:=by
 obtain ⟨_,_,h3⟩:=py h
 have hc:=(show ah i.lo i.hi=_ from hv.1.cmp hv.2)
 unfold bW aJ aI at h3
 refine ⟨hv,?_⟩
 revert h3
 simp only [hc]
 unfold sgn
 rcases Nat.lt_trichotomy (tk i.lo) (tk i.hi) with k | k | k
 · rw [if_pos k]; intro _; exact ⟨Nat.le_of_lt k,fun e=>absurd e (by omega)⟩
 · rw [if_neg (by omega),if_neg (by omega)]
   cases i.openLo <;> cases i.openHi <;> intro h3 <;> first | exact ⟨Nat.le_of_eq k,fun _=>⟨rfl,rfl⟩⟩ | exact absurd h3 (by decide)
 · rw [if_neg (by omega),if_pos k]; intro h3; have h':(1:Int) < 0:=h3; exact absurd h' (by decide)
end
end Go.Sx
namespace Go.Sx
open Go Go.RowKit Go.Proofs
set_option maxRecDepth 100000
set_option maxHeartbeats 8000000
attribute [local irreducible] Code.wp wpList Rd Step ObS Ent
attribute [local irreducible] ah ak aq an bN aQ be
structure XD where
 c0:XQ
 c1:XQ
 c2:XQ
structure XN where
 iv:XV
 f:XD
def cXD (x:XD):List Value:=cXQ x.c0++(cXQ x.c1++cXQ x.c2)
def vXD (x:XD):Value:=.agg (cXD x).toArray
def cXN (x:XN):List Value:=cXV x.iv++cXD x.f
def vXN (x:XN):Value:=.agg (cXN x).toArray
instance celXD (x:XD):Cel (vXD x) (cXD x):=⟨rfl⟩
instance celXN (x:XN):Cel (vXN x) (cXN x):=⟨rfl⟩
instance dcXD (x:XD):Dc (cXD x) (vXD x):=⟨rfl⟩
instance dcXN (x:XN):Dc (cXN x) (vXN x):=⟨rfl⟩
instance inhXN:Inhabited XN:=⟨⟨⟨⟨xq0,xq0,false⟩,⟨xq0,xq0,false⟩,false,false⟩,⟨xq0,xq0,xq0⟩⟩⟩
theorem oneXD (x:XD):∀ c∈cXD x,c.oneCell'=true:=dB (n7 _) (dB (n7 _) (n7 _))
instance codXN:Cod XN:=⟨cXN,32,fun _=>rfl,fun x=>dB (oneXV _) (oneXD _),by decide⟩
def dX' (f:Qd):XD:=⟨qX f.c0,qX f.c1,qX f.c2⟩
def nX (u:U Qd):XN:=⟨ivX u.iv,dX' u.f⟩
theorem nX_enc (u:U Qd):Cod.enc (nX u)=Cod.enc u:=rfl
theorem uG:∀ l:List (U Qd),flat (l.map nX)=flat l
 | []=>rfl
 | s::l=>by
  have:=uG l
  unfold flat at this ⊢
  rw [List.map_cons,List.flatMap_cons,List.flatMap_cons,this,nX_enc]
theorem View.nX {w:World} {sv:Value} {l:List (U Qd)} (h:View w sv (l.map nX)):View w sv l:=by
 unfold View at h ⊢
 rw [uG,List.length_map] at h
 rw [List.map_eq_nil_iff] at h
 exact h
def x7 (u:XN):List XQ:=[u.iv.lo.p,u.iv.lo.r,u.iv.hi.p,u.iv.hi.r,u.f.c0,u.f.c1,u.f.c2]
def GqW (a:GQ):Prop:=QOk a∧a.num.mag < 2 ^ 160∧a.den.mag < 2 ^ 160
def GdW (x:XQ):Prop:=∃ a:GQ,x=qX a∧GqW a
theorem oP {a:GQ} (k:GqW a):Bq 160 a:=Bq.self k.1 k.2.1 (by
 unfold jy
 by_cases e:a.den=z0
 · rw [if_pos e]; decide
 · rw [if_neg e]; exact k.2.2)
theorem oO {a:GQ} (k:GqW a):SzQ 40 a:=(oP k).sz (by decide)
theorem mQ (x:XQ) (hs:xsz x≤20):∃ e:Int,(∀ w0,Calls Tryz.prog 15 #[vXQ x] w0 (dh w0 (.int .i64 e) True))∧(e=0→GdW x):=by
 unfold xsz at hs
 rcases xq_cases x (by have:x.n.b.size≤20:=by omega
                       exact Nat.le_trans (Nat.mul_le_mul_right _ this) (by decide)) with ⟨a,rfl⟩ | h
 · have h1:(le a.num.mag).length≤20:=by rw [← fm]; have:(bs a.num.mag).size+(bs a.den.mag).size≤20:=hs; omega
   have h2:(le a.den.mag).length≤20:=by rw [← fm]; have:(bs a.num.mag).size+(bs a.den.mag).size≤20:=hs; omega
   have za:SzQ 16 a:=⟨Nat.le_trans (Nat.mul_le_mul_right _ h1) (by decide),Nat.le_trans (Nat.mul_le_mul_right _ h2) (by decide)⟩
   exact ⟨ce a,fun w0=>il a za w0,fun e=>⟨a,rfl,gu e,(cS 20 _).1 h1,(cS 20 _).1 h2⟩⟩
 · exact ⟨5,h,fun e=>absurd e (by decide)⟩
def GWR (x:XR):Prop:=GdW x.p∧GdW x.r
def GWV (x:XV):Prop:=GWR x.lo∧GWR x.hi
def GWD (x:XD):Prop:=GdW x.c0∧GdW x.c1∧GdW x.c2
def S2R (x:XR):Prop:=xsz x.p≤20∧xsz x.r≤20
def S2D (x:XD):Prop:=xsz x.c0≤20∧xsz x.c1≤20∧xsz x.c2≤20
def S2N (u:XN):Prop:=(S2R u.iv.lo∧S2R u.iv.hi)∧S2D u.f
theorem x7_20 {u:XN} (h:∀ k,k < 7→xsz (gt (x7 u) k)≤20):S2N u:=⟨⟨⟨h 0 (by decide),h 1 (by decide)⟩,⟨h 2 (by decide),h 3 (by decide)⟩⟩,⟨h 4 (by decide),h 5 (by decide),h 6 (by decide)⟩⟩
def GWr (a:GR):Prop:=GqW a.p∧GqW a.r
def GWu (u:U Qd):Prop:=(GWr u.iv.lo∧GWr u.iv.hi)∧GqW u.f.c0∧GqW u.f.c1∧GqW u.f.c2
theorem yX {x:XR} (h:GWR x):∃ a,x=rX a∧GWr a:=by
 obtain ⟨p,ep,hp⟩:=h.1
 obtain ⟨r,er,hr⟩:=h.2
 refine ⟨⟨p,r,x.neg⟩,?_,hp,hr⟩
 obtain ⟨a,b,c⟩:=x
 simp only at ep er
 rw [ep,er]; rfl
theorem gwv_is {x:XV} (h:GWV x):∃ a,x=ivX a∧GWr a.lo∧GWr a.hi:=by
 obtain ⟨p,ep,hp⟩:=yX h.1
 obtain ⟨r,er,hr⟩:=yX h.2
 refine ⟨⟨p,r,x.openLo,x.openHi⟩,?_,hp,hr⟩
 obtain ⟨a,b,c,d⟩:=x
 simp only at ep er
 rw [ep,er]; rfl
theorem gwd_is {x:XD} (h:GWD x):∃ a,x=dX' a∧GqW a.c0∧GqW a.c1∧GqW a.c2:=by
 obtain ⟨p,ep,hp⟩:=h.1
 obtain ⟨q,eq,hq⟩:=h.2.1
 obtain ⟨r,er,hr⟩:=h.2.2
 refine ⟨⟨p,q,r⟩,?_,hp,hq,hr⟩
 obtain ⟨a,b,c⟩:=x
 simp only at ep eq er
 rw [ep,eq,er]; rfl
theorem nE {a:GR} (h:GWr a):SzR 40 a:=⟨oO h.1,oO h.2⟩
theorem gwu_sz {u:U Qd} (h:GWu u):g6 40 u:=⟨⟨nE h.1.1,nE h.1.2⟩,oO h.2.1,oO h.2.2.1,oO h.2.2.2⟩
theorem aah (x:XV) (f:XD):Bu Tryz.prog 88 [0,1] [vXV x,vXD f] (vXN ⟨x,f⟩):=Bu.of oS rfl rfl
theorem sh72X:Sh Tryz.prog 72 XD vXD:=⟨trivial⟩
theorem sh76X:Sh Tryz.prog 76 XN vXN:=⟨trivial⟩
theorem sh88Y:Sh Tryz.prog 88 XN vXN:=⟨trivial⟩
section
attribute [local instance 2000] sM sN x4 xZ sh72X sh76X sh88Y aah
theorem xE (l:List XN) (lv:Value) (hl:l.length≤1000) (w0:World) (hlv:View w0 lv l):Calls Tryz.prog 168 #[lv] w0 (RetR w0 88 l True):=by
 refine enter (N:=22) (args:=[lv]) Tryz.func168 rfl rfl ?_; intro ac h
 have hlen:=hlv.len
 refine gz h <| (W) ?_; clear h ac; intro ac wo h
 replace h:=h.nilRow (α:=XN) 88
 refine wp_loop_ghost (fun n_ a_ w_=>∃ (i:Nat) (sv:Value),(l.length - i < n_)∧(i≤l.length)∧St w0 22 [(3,sv),(6,lv),(7,iN l.length),(8,iN i)] [.row (α:=XN) 88 sv (l.take i)] a_ w_) (l.length+1) ⟨0,_,by omega,by omega,h.re [0]⟩ ?_
 clear h ac wo; rintro n1 ac wo ⟨i,sv,hm1,hi,h⟩
 obtain ⟨m1,rfl⟩:∃ m,n1=m+1:=⟨n1 - 1,by omega⟩
 refine gz h <| (ai) ?_ ?_ <;> clear h ac wo <;> intro ac wo h hc1
 ·
  have hd1:=of_decide_eq_true hc1
  refine gz h <| (xa) fun b1=>(W) ?_; clear h ac wo; intro ac wo h
  refine nw h (bT (α:=XN) (xs:=[.tmp 17]) (vs:=[vXN (gt l i)]) [gt l i] iJ rfl rfl rfl (by decide)) rfl ?_; clear h ac wo; intro s1 ac wo _ h
  refine on2 h 2 0 rfl rfl (eA (xs:=l.take i) (ys:=[gt l i]) iJ (fun w hs=>(row_view hs 0 rfl)) rfl rfl (by rw [List.length_take]; show _+1≤_; omega)) rfl ?_; clear h ac wo; intro s2 ac wo _ h
  rw [mY (by omega)] at h
  refine gz h <| (W) ?_; clear h ac wo; intro ac wo h
  exact az ⟨m1,by omega,i+1,s2,by omega,by omega,h.re [0]⟩
 ·
  have hd1:=of_decide_eq_false hc1
  obtain rfl:i=l.length:=by omega
  rw [List.take_length] at h
  refine gz h <| (W) ?_; clear h ac wo; intro ac wo h
  exact (rt h) (h.retR 0 rfl trivial)
theorem sE (l:List XN) (lv:Value) (hl:l.length≤1000) (w0:World) (hlv:View w0 lv l):Calls Tryz.prog 63 #[lv] w0 (RetR w0 88 l True):=by
 refine enter (N:=26) (args:=[lv]) Tryz.func63 rfl rfl ?_; intro ac h
 have hlen:=hlv.len
 refine gz h <| (W) ?_; clear h ac; intro ac wo h
 replace h:=h.nilRow (α:=XN) 88
 refine wp_loop_ghost (fun n_ a_ w_=>∃ (i:Nat) (sv:Value),(l.length - i < n_)∧(i≤l.length)∧St w0 26 [(0,lv),(3,sv),(4,iN i)] [.row (α:=XN) 88 sv (l.take i)] a_ w_) (l.length+1) ⟨0,_,by omega,by omega,h.re [0]⟩ ?_
 clear h ac wo; rintro n1 ac wo ⟨i,sv,hm1,hi,h⟩
 obtain ⟨m1,rfl⟩:∃ m,n1=m+1:=⟨n1 - 1,by omega⟩
 refine gz h <| (ai) ?_ ?_ <;> clear h ac wo <;> intro ac wo h hc1
 ·
  have hd1:=of_decide_eq_true hc1
  refine gz h <| (W) ?_; clear h ac wo; intro ac wo h
  replace h:=h.emps 1
  refine fU mixed [dv _,dv _,dv _,dv _,dv _,dv (vXV (gt l i).iv),dv _,dv _,dv _,dv _,dv (vXD (gt l i).f),dv (vXN (gt l i)),⟨.nd (.one 12 fun v=>NN v 1),[1]⟩,⟨.nd (.con True),[0,1]⟩,⟨.nd (.two 14 13 fun a b=>a=b),[]⟩]
   [⟨.row (α:=XN) 88 sv (l.take i),[(13,.one 13 fun v=>.row (α:=XN) 88 v (l.take i++[gt l i]))]⟩,⟨.emp,[(12,.one 12 fun v=>.row (α:=XN) 88 v [gt l i])]⟩] h rfl (by kernel_rfl)
   ⟨oA obA,oA obA,oA obA,oA obA,oA obA,oA obA,oA obA,oA obA,oA obA,oA obA,oA obA,oA fun _=>bk (bX oS rfl rfl rfl),fun _ _=>ob_sl 1 (gt l i) iJ rfl rfl,fun _ _=>ob_ap (j:=12) 0 1 iJ rfl rfl (by rw [List.length_take]; omega) rfl (fun v=>by simp only [dJ,bt] <;> rfl),fun _ _=>rI (j:=13) (by decide) rfl,trivial⟩ ?_
  clear h ac wo; intro ξ ac wo hφ h
  replace h:St w0 26 [(0,lv),(3,ξ 14),(4,iN i)] [.row (α:=XN) 88 (ξ 13) (l.take i++[gt l i])] ac wo:=(h.pick [0] (by decide)).sub ⟨rfl,rfl,rfl,trivial⟩
  rw [show ξ 14=ξ 13 from hφ 14,mY (by omega)] at h
  generalize ξ 13=s2 at h; clear hφ ξ
  refine gz h <| (W) ?_; clear h ac wo; intro ac wo h
  exact az ⟨m1,by omega,i+1,s2,by omega,by omega,h.re [0]⟩
 ·
  have hd1:=of_decide_eq_false hc1
  obtain rfl:i=l.length:=by omega
  rw [List.take_length] at h
  refine gz h <| (W) ?_; clear h ac wo; intro ac wo h
  exact (rt h) (h.retR 0 rfl trivial)
end
end Go.Sx
namespace Go.Sx
def bE (a b:GQ):GQ:=(eW a b).1
end Go.Sx
namespace Go.Sx
open Go Go.RowKit Go.Proofs
set_option maxRecDepth 100000
set_option maxHeartbeats 4000000
attribute [local irreducible] Code.wp wpList Rd Step ObS Ent
attribute [local irreducible] ah ak aq an bN aQ
attribute [local irreducible] aW aR aj aB aM ao bA ab aa aZ cM aw
theorem vB (num den:GI) (k:Nat) (hk:k+1≤40) (znum:SzI (k+1) num) (zden:SzI (k+1) den) (w0:World):Calls Tryz.prog 217 #[(vI num),(vI den)] w0 (dh w0 (.tuple #[(vQ ((bD num den).1)),(.int .i64 ((bD num den).2))]) (SzQ k ((bD num den).1))):=by
 refine enter (N:=13) (args:=[(vI num),(vI den)]) Tryz.func217 rfl rfl ?_; intro ac h
 have p2:=ar ((dK den) w0)
 refine gz h <| (xb) fun b1=>(xb) fun b2=>(xa) fun b3=>(xk (dK den)) <| (ai) ?_ ?_ <;> clear h ac <;> intro ac wo h hc1
 ·
  have hd:bD num den=(oQ,6):=by unfold bD; rw [hc1]; rfl
  rw [hd]
  refine gz h <| (xo (hs:=by exact bX mR exs rfl (v:=(vQ oQ)) rfl)) <| (W) ?_; clear h ac wo; intro ac wo h
  exact xw 0 h (h.retP (u:=.tuple #[vQ oQ,.int .i64 6]) rfl ⟨(ed 0 (by decide) (by omega)),(ed 0 (by decide) (by omega))⟩)
 ·
  have c3:=dV num den k hk znum zden
  have hd:bD num den=((aZ num den),0):=by unfold bD; rw [hc1]; rfl
  rw [hd]
  refine gz h <| (xk (c3)) <| (W) ?_; clear h ac wo; intro ac wo h
  exact xw 0 h (h.retP (u:=.tuple #[vQ (aZ num den),.int .i64 0]) rfl (ar (c3 w0)))
theorem lp (a b:GQ) (k:Nat) (hk:k+2≤40) (za:SzQ (k+2) a) (zb:SzQ (k+2) b) (w0:World):Calls Tryz.prog 278 #[vQ a,vQ b] w0 (dh w0 (.tuple #[vQ (eW a b).1,.int .i64 (eW a b).2]) (SzQ k (eW a b).1)):=by
 refine enter (N:=19) (args:=[vQ a,vQ b]) Tryz.func278 rfl rfl ?_; intro ac h
 have e:eW a b=bD (ab a.num (aa b)) (ab (aa a) b.num):=by unfold eW; rfl
 rw [e]
 have s1:=ar ((bJ b (k+2) hk zb) w0)
 have s2:=ar ((bU a.num (aa b) (k+1) hk za.1 s1) w0)
 have s3:=ar ((bJ a (k+2) hk za) w0)
 have s4:=ar ((bU (aa a) b.num (k+1) hk s3 zb.1) w0)
 have hk1:k+1≤40:=by omega
 have s5:=ar ((vB (ab a.num (aa b)) (ab (aa a) b.num) k hk1 s2 s4) w0)
 refine gz h <| (xb) fun b1=>(xb) fun b2=>(xa) fun b3=>(dr1 (H:=[⟨.blk b3 (cQ oQ) 29,[(13,.con (.blk b3 (cQ (bD (ab a.num (aa b)) (ab (aa a) b.num)).1) 29))]⟩,⟨_,[]⟩,⟨_,[]⟩]) (hob:=(oK (bJ b (k+2) hk zb)) <| (oK (bU a.num (aa b) (k+1) hk za.1 s1)) <| (oK (bJ a (k+2) hk za)) <| (oK (bU (aa a) b.num (k+1) hk s3 zb.1)) <| (oK (vB (ab a.num (aa b)) (ab (aa a) b.num) k hk1 s2 s4)) <| oE)) <| (W) ?_; clear h ac; intro ac wo h
 exact xw 0 h (h.retP (u:=.tuple #[vQ (bD (ab a.num (aa b)) (ab (aa a) b.num)).1,.int .i64 (bD (ab a.num (aa b)) (ab (aa a) b.num)).2]) rfl s5)
theorem mH (a b:GQ) (k:Nat) (hk:k+2≤40) (za:SzQ (k+2) a) (zb:SzQ (k+2) b) (w0:World):Calls Tryz.prog 291 #[vQ a,vQ b] w0 (dh w0 (vQ (bE a b)) (SzQ k (bE a b))):=by
 refine enter (N:=14) (args:=[vQ a,vQ b]) Tryz.func291 rfl rfl ?_; intro ac h
 have c1:=lp a b k hk za zb
 have s1:=ar (c1 w0)
 have e:bE a b=(eW a b).1:=by unfold bE; rfl
 rw [e]
 refine gz h <| (xb) fun b1=>(xb) fun b2=>(xa) fun b3=>(xk c1) <| (xa) fun b4=>(W) ?_; clear h ac; intro ac wo h
 exact rtc 1 h (h.retP (u:=vQ (eW a b).1) rfl s1)
attribute [local irreducible] bE
instance cf291:Cf Tryz.prog 291:=⟨Tryz.call291⟩
instance cf356:Cf Tryz.prog 356:=⟨Tryz.call356⟩
instance cf328:Cf Tryz.prog 328:=⟨Tryz.call328⟩
end Go.Sx
namespace Go.Sx
theorem yS {a:GI} (h:(a7 a).2=true):∃ m,a.neg=false∧a.mag=m*m∧(a7 a).1=aD false m:=by
 unfold a7 at h ⊢
 cases hn:a.neg with
 | true=>rw [hn] at h; cases h
 | false =>
  rw [hn,cond_false] at h
  rw [cond_false]
  cases hd:decide (ee (bM a.mag) (bM a.mag)=a.mag) with
  | false=>rw [hd] at h; cases h
  | true =>
   refine ⟨bM a.mag,rfl,?_,rfl⟩
   have:=of_decide_eq_true hd
   exact this.symm.trans (by unfold ee; rfl)
theorem th (m:Nat):IOk (aD false m)∧fL (aD false m)=(m:Int):=by
 unfold aD
 cases h:decide (m=0) <;> first | exact ⟨fun _=>rfl,rfl⟩ | (simp_all; exact ⟨fun _=>rfl,rfl⟩)
theorem root_val {r:GQ} (hr:QOk r) (h:(bP r).2=true):QOk (bP r).1∧cK (bP r).1*cK (bP r).1=cK r∧∀ M,Bq M r→Bq M (bP r).1:=by
 unfold bP at h ⊢
 have hb:((!(a7 r.num).2) || (!(a7 (aa r)).2))=false:=by
  cases hh:((!(a7 r.num).2) || (!(a7 (aa r)).2)) with
  | false=>rfl
  | true=>rw [hh] at h; cases h
 rw [hb,cond_false]
 rw [Bool.or_eq_false_iff] at hb
 obtain ⟨m,nn,nm,ne⟩:=yS (by simpa using hb.1)
 obtain ⟨k,dn,dm,de⟩:=yS (by simpa using hb.2)
 rw [ne,de]
 obtain ⟨o1,v1⟩:=th m
 obtain ⟨o2,v2⟩:=th k
 obtain ⟨dv,_⟩:=ks hr
 have hk:jy r=k*k:=by
  unfold fL at dv
  rw [dn,dm,cond_false] at dv
  exact_mod_cast dv.symm
 have hp:=hr.pos
 have k0:0 < k:=Nat.pos_of_ne_zero fun e=>by rw [e] at hk; omega
 have hn:fL r.num=((m*m:Nat):Int):=by unfold fL; rw [nn,nm]; rfl
 obtain ⟨oc,vc⟩:=sf (n:=aD false m) (d:=aD false k) o1 (by rw [v2]; omega)
 rw [v1,v2] at vc
 refine ⟨oc,?_,fun M hB=>?_⟩
 · show cK (aZ _ _)*cK (aZ _ _)=_
   rw [vc]
   unfold cK
   rw [hn,hk]
   have:=kq k0
   push_cast
   generalize (m:Rat)=x at *
   generalize (k:Rat)=y at *
   grind
 · obtain ⟨b1,b2⟩:=hB.mag
   have hd:jy r < 2 ^ M:=by
    unfold jy
    by_cases e:r.den=z0
    · rw [if_pos e]
      obtain ⟨_,a,b,h1,h2,_⟩:=hB
      omega
    · rw [if_neg e]; exact b2
   have m1:m≤m*m:=by
    rcases m with _ | m
    · omega
    · exact Nat.le_mul_of_pos_left _ (by omega)
   have k1:k≤k*k:=Nat.le_mul_of_pos_left _ k0
   exact Bq.of oc (m:Int) k k0 (by omega) (by simpa using (by omega:m < 2 ^ M)) (by rw [vc]; push_cast; rfl)
theorem make_rok {p m r:GQ} (hp:QOk p) (hm:QOk m) (hr:QOk r) (h0:0≤cK r) {P M R:Nat} (bp:Bq P p) (bm:Bq M m) (br:Bq R r) (hR:0 < R) :
 ROk (eF p m r).1∧Bq (P+(M+R)+1) (eF p m r).1.p∧Bq (M+M+R) (eF p m r).1.r:=by
 unfold eF
 have hs:decide (aq r < 0)=false:=by
  rw [decide_eq_false_iff_not,jQ hr]
  unfold rsgn
  rw [if_neg (by grind)]
  split <;> decide
 rw [hs,cond_false]
 cases h:(bP r).2 with
 | true =>
  obtain ⟨o,v,b⟩:=root_val hr h
  rw [cond_true]
  have om:=gp hm o
  have oa:=jC hp om.1
  refine ⟨⟨oa.1,jK.1,.inl ⟨jK.2,rfl⟩⟩,bp.add (bm.mul (b R br)),Bq.zero (by omega)⟩
 | false =>
  rw [cond_false]
  have o1:=gp hm hm
  have o2:=gp o1.1 hr
  refine ⟨⟨hp,o2.1,?_⟩,bp.le (by omega),(bm.mul bm).mul br⟩
  have no:∀ q:Rat,q*q≠cK r:=fun q hq=>by rw [vd hr hq] at h; cases h
  have v:cK (aj (aj m m) r)=cK m*cK m*cK r:=by rw [o2.2,o1.2]
  show (cK (aj (aj m m) r)=0∧decide (aq m < 0)=false)∨(0 < cK (aj (aj m m) r)∧∀ q:Rat,q*q≠cK (aj (aj m m) r))
  rw [v]
  by_cases e:cK m=0
  · left
    refine ⟨by rw [e]; grind,?_⟩
    rw [decide_eq_false_iff_not,jQ hm,e]
    decide +kernel
  · right
    have r0:0 < cK r:=by
     have:=no 0
     grind
    have m0:0 < cK m*cK m:=by
     have h1:=mK (cK m)
     have h2:cK m*cK m≠0:=fun h=>by
      rcases Rat.mul_eq_zero.1 h with h | h <;> exact e h
     grind
    refine ⟨Rat.mul_pos m0 r0,fun q hq=>no (q / cK m) ?_⟩
    generalize cK m=x at *
    generalize cK r=y at *
    have:q / x*(q / x)=(q*q) / (x*x):=by grind
    rw [this,hq]
    grind
end Go.Sx
namespace Go.Sx
open Go Go.RowKit Go.Proofs
set_option maxRecDepth 100000
set_option maxHeartbeats 40000000
attribute [local irreducible] Code.wp wpList Rd Step ObS Ent
attribute [local irreducible] ah ak aq an bN
def kL (l:List (U Qd)) (out:List Iv) (x8:Nat):(List Iv) :=
 out
def gh (l:List (U Qd)) (out:List Iv) (x8:Nat):Nx ((List Iv)×Nat) (List Iv) :=
 bif (decide (((x8:Nat):Int) < ((l.length:Nat):Int))) then
  .go ((out++[(gt l x8).iv]),(x8+1))
 else
  .out (out,x8)
def bQ (l:List (U Qd)):(List Iv) :=
 fin (bZ (fun s=>gh l s.1 s.2) ((l.length - 0)+1) ([],0)) (fun s=>kL l s.1 s.2) (fun r=>r)
theorem kK (l:List (U Qd)) (lv:Value) (hl:l.length≤1000) (zl:All (g6 30) l) (w0:World) (hlv:View w0 lv l):Calls Tryz.prog 260 #[lv] w0 (RetR w0 74 (bQ l) (All (SzV 30) (bQ l)∧(bQ l).length=l.length)):=by
 refine enter (N:=19) (args:=[lv]) Tryz.func260 rfl rfl ?_; intro ac h
 have hlenl:=hlv.len
 refine gz h <| (W) ?_; clear h ac; intro ac wo h
 replace h:=h.nilRow (α:=Iv) 74
 obtain ⟨X1,hX1⟩:∃ X,bZ (fun s=>gh l s.1 s.2) ((l.length - 0)+1) ([],0)=X:=⟨_,rfl⟩
 refine wp_loop_ghost (fun n_ a_ w_=>∃ (out:List Iv) (x8:Nat) (outv:Value),((l.length - x8) < n_)∧(bZ (fun s=>gh l s.1 s.2) n_ (out,x8)=X1)∧(x8≤l.length)∧(All (SzV 30) out)∧(out.length=x8)∧St w0 19 [(3,outv),(6,lv),(7,(.int .i64 ((l.length:Nat):Int))),(8,(.int .i64 ((x8:Nat):Int)))] [.row (α:=Iv) 74 outv out] a_ w_) ((l.length - 0)+1) ⟨[],0,(.slice none 0 0),og,hX1,og,All.nil,og,h.rs⟩ ?_
 clear h ac wo; rintro n1 ac wo ⟨out,x8,outv,hm1,hL1,hx8,zout,hol,h⟩
 obtain ⟨m1,rfl⟩:∃ m,n1=m+1:=⟨n1 - 1,by omega⟩
 refine gz h <| (ai) ?_ ?_ <;> clear h ac wo <;> intro ac wo h hc1
 ·
  have hd1:=of_decide_eq_true hc1
  refine gz h <| (xa) fun b1=>(W) ?_; clear h ac wo; intro ac wo h
  refine nw h (bT (α:=Iv) (xs:=[.tmp 14]) (vs:=[(vV ((gt l x8).iv))]) [(gt l x8).iv] slt103 rfl rfl rfl (by decide)) rfl ?_; clear h ac wo; intro sv2 ac wo nnsv2 h
  refine on2 h 2 0 rfl rfl (eA (xs:=out) (ys:=[(gt l x8).iv]) slt103 (fun w hs=>(row_view hs 0 rfl)) rfl rfl og) rfl ?_; clear h ac wo; intro sv3 ac wo apsv3 h
  refine gz h <| (W) ?_; clear h ac wo; intro ac wo h
  have hg:=cZ hL1 pt
  exact az ⟨m1,og,_,_,_,og,hg,og,(All.app zout (All.cons (All.gt zl (bG _)).1 All.nil)),og,h.re [0]⟩
 ·
  have hd1:=of_decide_eq_false hc1
  have hx1:=eh hL1 pt
  have hd:bQ l=out:=pt
  refine gz h <| (W) ?_; clear h ac wo; intro ac wo h
  exact (rt h) (by rw [hd]; exact h.retR 0 rfl ⟨zout,og⟩)
attribute [irreducible] bQ
end Go.Sx
namespace Go.Sx
theorem Bdd.congr {f g:Nat→Rat} (h:Bdd f) (e:∀ k,f k=g k):Bdd g:=by
 rw [show g=f from funext fun k=>(e k).symm]; exact h
def pv (q:Qd) (x:Rat):Rat:=cK q.c0+x*(cK q.c1+x*cK q.c2)
def sO (q:Qd) (t:GR):Int:=kF (qAt q t)
def dU (q:Qd):List GR×Int :=
 bif (decide (q.c2=oQ) && decide (q.c1=oQ)) && decide (q.c0=oQ) then ([],6)
 else bif decide (q.c2=oQ) && decide (q.c1=oQ) then ([],0)
 else bif decide (q.c2=oQ) then ([aQ (aM (bE q.c0 q.c1))],0)
 else
  bif aq (ao (aj (bE q.c1 (aj (ak (-2)) q.c2)) (bE q.c1 (aj (ak (-2)) q.c2))) (bE q.c0 q.c2)) == -1 then ([],0)
  else bif aq (ao (aj (bE q.c1 (aj (ak (-2)) q.c2)) (bE q.c1 (aj (ak (-2)) q.c2))) (bE q.c0 q.c2)) == 0 then ([aQ (bE q.c1 (aj (ak (-2)) q.c2))],0)
  else ([(eF (bE q.c1 (aj (ak (-2)) q.c2)) (aM (ak 1)) (ao (aj (bE q.c1 (aj (ak (-2)) q.c2)) (bE q.c1 (aj (ak (-2)) q.c2))) (bE q.c0 q.c2))).1,(eF (bE q.c1 (aj (ak (-2)) q.c2)) (ak 1) (ao (aj (bE q.c1 (aj (ak (-2)) q.c2)) (bE q.c1 (aj (ak (-2)) q.c2))) (bE q.c0 q.c2))).1],0)
end Go.Sx
