/- A part of the proof of movingnumberChecks. -/
import Derived.Test.YtpfdaoajcnophaaGreatDoorB7
import Derived.Test.YtpfdaoajcnophaaGreatDoorA1
import Derived.Shelf.Strings.Repeat
set_option linter.unusedVariables false
set_option linter.unusedSimpArgs false
open Go.Proofs.Tryz renaming runUnderlying9 → uu9, underlying339 → nn339, underlying5 → nn5, underlying9 → nn9, isAgg5 → aa5, sizeOf5 → zz5, zeroValue5 → vv5
namespace Go.Sx
open Go Go.RowKit Go.Proofs
set_option maxRecDepth 100000
set_option maxHeartbeats 40000000
attribute [local irreducible] Code.wp wpList Rd Step ObS Ent
attribute [local irreducible] ah ak aq an bN
def bM (a:Nat):Nat:=isq a
def zs (c:Nat):ByteArray:=⟨(Lib.repeatL (ByteArray.data ⟨#[0]⟩).toList c).toArray⟩
theorem xt (w0:World):Calls Tryz.prog 324 #[(.string ⟨#[0]⟩),(.int .i64 ((0:Nat):Int))] w0 (dh w0 (.string (zs 0)) True):=by
 refine enter (N:=125) (args:=[(.string ⟨#[0]⟩),(.int .i64 0)]) Tryz.func324 rfl rfl ?_; intro ac h
 refine gz h <| (W) ?_; clear h ac; intro ac wo h
 refine c_ifT h rfl ?_ rfl
 refine gz h <| (W) ?_; clear h ac wo; intro ac wo h
 exact (rt h) (h.retP rfl trivial)
theorem l6 (a:Nat) (za:SzB 30 a) (hrep:∀ w0,Calls Tryz.prog 324 #[(.string ⟨#[0]⟩),(.int .i64 ((rexp a / 8:Nat):Int))] w0 (dh w0 (.string (zs (rexp a / 8))) True)) (w0:World) :Calls Tryz.prog 287 #[(.string (bs a))] w0 (dh w0 (.string (bs (bM a))) (SzB 29 (bM a))):=by
 refine enter (N:=50) (args:=[(.string (bs a))]) Tryz.func287 rfl rfl ?_; intro ac h
 haveI:On:=⟨trivial⟩
 refine gz h <| (ai) ?_ ?_ <;> clear h ac <;> intro ac wo h hc1
 ·
   have hd1:=of_decide_eq_true hc1
   have hd:bM a=0:=by rw [hd1]; unfold bM isq; rfl
   refine gz h <| (W) ?_; clear h ac wo; intro ac wo h
   exact (rt h) (h.retP (by rw [hd] <;> rfl) (by rw [hd]; exact (ed 0 (by decide) og)))
 ·
   have h0:0 < a:=by have:=of_decide_eq_false hc1; omega
   have hll:=uD h0
   have hlz:(le a).length≤65536:=by unfold SzB at za; omega
   obtain ⟨t1,t2,t3,_⟩:=pA h0
   have hn:nbit a=8*((le a).length - 1)+Lib.bitLen (oC a):=rfl
   have hm:rexp a=(nbit a+1) / 2:=rfl
   have hn3:nbit a≤524296:=by omega
   refine gz h <| (xo (hs:=by exact lM uu9 rfl)) <| (xo (hs:=by exact fv rfl rfl (r:=(((le a).length - 1:Nat):Int)) (by rw [fm,IntKind.wrap_i64]; omega))) <| (xo (hs:=by exact lD rfl rfl (r:=((8*((le a).length - 1):Nat):Int)) (by rw [IntKind.wrap_i64]; omega))) <| (xo (hs:=by exact vi uu9 rfl rfl (by omega))) <| (xk (Len8_ct (oC a) og)) <| (xo (hs:=by exact oV rfl rfl (r:=((rexp a:Nat):Int)) (by decide) (by rw [hm,hn,Int.tdiv_eq_ediv_of_nonneg (by omega),IntKind.wrap_i64]; omega))) <| (W) ?_; clear h ac wo; intro ac wo h
   obtain ⟨m,hme⟩:∃ m,rexp a=m:=⟨_,rfl⟩
   have hm2:m≤262144:=by omega
   rw [hme] at h hrep
   replace h:St w0 50 [(0,.string (bs a)),(3,iN m)] [] ac wo:=h.re []
   have hpw:2 ^ (m % 8) < 256:=by
    have:2 ^ (m % 8)≤2 ^ 7:=Nat.pow_le_pow_right (by decide) (by omega)
    omega
   have hp0:0 < 2 ^ (m % 8):=Nat.pow_pos (by decide)
   obtain ⟨u,hu,hub⟩:∃ u:UInt8,u.toNat=2 ^ (m % 8)∧(⟨[u].toArray⟩:ByteArray)=bs (2 ^ (m % 8)):=⟨UInt8.ofNat (2 ^ (m % 8)),by rw [UInt8.toNat_ofNat']; omega,bs_one hp0 hpw⟩
   replace h:=h.emps 1
   refine fU mixed [dv _,dv (.int .i64 ((m % 8:Nat):Int)),dv (.int .u8 ((u.toNat:Nat):Int)),⟨.nd (.one 3 fun v=>NN v 1),[0]⟩,dw (.string ⟨[u].toArray⟩) [0],dv _,dv (.int .i64 ((m / 8:Nat):Int)),dv (.string (zs (m / 8))),dv (.string (bs (2 ^ m))),dv (.string (bs (2 ^ m)))]
    [⟨.emp,[(3,.one 3 fun v=>.row (α:=UInt8) 5 v [u])]⟩] h rfl (by kernel_rfl)
    ⟨oA obA,oA fun _=>bk (ru rfl rfl (r:=((m % 8:Nat):Int)) (by decide) (by rw [Int.tmod_eq_emod_of_nonneg (by omega)]; rfl)),oA fun _=>bk (sS rfl rfl (r:=((u.toNat:Nat):Int)) (by omega) (by show ((m % 8:Nat):Int)≤8; omega) (by
     rw [Int.toNat_natCast,Int.one_mul,hu]
     have e9:((2:Int) ^ (m % 8))=((2 ^ (m % 8):Nat):Int):=by push_cast; rfl
     rw [e9]
     generalize 2 ^ (m % 8)=q at *
     rw [IntKind.wrap_u8]; omega)),
     fun _ _=>my (ψ:=fun v=>NN v 1) (B:=fun v=>[.row (α:=UInt8) 5 v [u]]) [.emp] rfl (fun v _=>by simp only [dJ,bt] <;> rfl) (fun v hv=>by simpa [DF.one,bt] using hv) (jh (bT (α:=UInt8) (xs:=[.tmp 24]) (vs:=[(.int .u8 ((u.toNat:Nat):Int))]) [u] xU rfl rfl rfl (by decide))),
     fun ξ _=>jB [.row (α:=UInt8) 5 (ξ 3) [u]] rfl rfl (r_str nn339 nn5 nn9 rfl),oA obA,oA fun _=>bk (oV rfl rfl (r:=((m / 8:Nat):Int)) (by decide) (by rw [Int.tdiv_eq_ediv_of_nonneg (by omega),IntKind.wrap_i64]; omega)),oA fun _=>i0 (iC Tryz.call324 rfl hrep),oA fun _=>bk (r_catS rfl rfl (by have e8:=Lib.repeatL_length [(0:UInt8)] (m / 8); show [u].toArray.size+(Lib.repeatL [(0:UInt8)] (m / 8)).toArray.size≤_; rw [List.size_toArray,List.size_toArray,e8]; simp; omega) (by rw [hub]; exact (bs_pow m).symm)),oA obA,trivial⟩ ?_
   clear h ac wo; intro ξ ac wo hφ h
   replace h:St w0 50 [(0,.string (bs a)),(4,.string (bs (2 ^ m)))] [] ac wo:=(h.pick [] (by decide)).sub ⟨rfl,rfl,trivial⟩
   clear hφ ξ
   have hst:isq a≤2 ^ m:=by rw [← hme]; exact wJ h0
   have zst:SzB 29 (2 ^ m):=by unfold SzB; rw [le_pow]; omega
   have hs0:=isq_pos h0
   refine gz h <| (W) ?_; clear h ac wo; intro ac wo h
   refine wp_loop_ghost (fun n_ a_ w_=>∃ (x:Nat),(x < n_)∧(isq a≤x)∧(SzB 29 x)∧St w0 50 [(0,(.string (bs a))),(4,(.string (bs x)))] [] a_ w_) (2 ^ m+1) ⟨2 ^ m,by omega,hst,zst,h.rs⟩ ?_
   clear h ac wo; rintro n1 ac wo ⟨x,hm1,hx,zx,h⟩
   obtain ⟨m1,rfl⟩:∃ m,n1=m+1:=⟨n1 - 1,by omega⟩
   have c2:=jq a x 29 og (SzB_le za og) zx (by omega)
   have s2:=ar (c2 w0)
   have c3:=iE x ((bH a x).1) 28 og zx s2.1
   have s3:=ar (c3 w0)
   have c4:=jq (dX x ((bH a x).1)) 2 28 og s3 (ed 2 (by decide) og) og
   have e4:(bH (dX x ((bH a x).1)) 2).1=nwt a x:=rfl
   rw [e4] at c4
   refine gz h <| (xk c2) <| (xk c3) <| (xk c4) <| (xk (eQ (nwt a x) x)) <| (ai) ?_ ?_ <;> clear h ac wo <;> intro ac wo h hc2
   ·
     have hle:=tX hc2
     have hd:bM a=x:=(nwt_stop hx hle).symm
     refine gz h <| (W) ?_; clear h ac wo; intro ac wo h
     exact (rt h) (h.retP (by rw [hd] <;> rfl) (by rw [hd]; exact zx))
   ·
     have hle:=tW hc2
     have hlt:nwt a x < x:=by
      refine Nat.lt_of_le_of_ne hle fun e=>?_
      rw [e] at hc2
      have:bn x x=0:=by rw [uN,if_neg (Nat.lt_irrefl _),if_neg (Nat.lt_irrefl _)]
      rw [this] at hc2; cases hc2
     refine gz h <| (W) ?_; clear h ac wo; intro ac wo h
     exact az ⟨m1,by omega,nwt a x,by omega,nwt_ge (by omega),ip zx hle,h.re []⟩
attribute [irreducible] bM
theorem rexp4 {a:Nat} (h:a < 4):rexp a / 8=0:=by
 have:a=0∨a=1∨a=2∨a=3:=by omega
 rcases this with rfl | rfl | rfl | rfl <;> decide +kernel
theorem root4_ct (a:Nat) (ha:a < 4) (za:SzB 30 a) (w0:World):Calls Tryz.prog 287 #[(.string (bs a))] w0 (dh w0 (.string (bs (bM a))) (SzB 29 (bM a))) :=
 l6 a za (by rw [rexp4 ha]; exact xt) w0
end Go.Sx
namespace Go.Sx
open Go
def rsw {α:Type}:Result α→World
 | .ok _ w=>w
 | .halt _ w=>w
theorem lB {α:Type} {p:Program}:∀ (s:Sem α) (w:World),w.drawn≤(rsw (s.run p w)).drawn
 | .pure b,w=>Nat.le_refl _
 | .load m ad k,w=>by
  unfold Sem.run
  split
  · exact lB _ _
  · split
    · exact lB _ _
    · exact Nat.le_refl _
 | .store m ad v k,w=>by
  have key:∀ v':Value,w.drawn≤(rsw (match w.cell? ad with
   | some _ => if w.frozen? ad then (Result.halt (.unsupported (.unsafePointer "a write to bytes that a string shares")) w : Result α) else k.run p (w.setCell ad v')
   | none=>match w.farStore p ad v' (m == .atomic) with
    | .ok (w,_)=>k.run p w
    | .error h=>.halt h w)).drawn:=fun v'=>by
   split
   · split
     · exact Nat.le_refl _
     · exact lB k (w.setCell ad v')
   · split
     · rename_i w2 l hf
       exact Nat.le_trans (Nat.le_of_eq (ko hf).symm) (lB k w2)
     · exact Nat.le_refl _
  cases v <;> first | exact key _ | exact Nat.le_refl w.drawn
 | .new o k,w=>by
  unfold Sem.run
  exact lB (k w.heap.size) { w with heap:=w.heap.push o }
 | .shape r k,w=>by
  unfold Sem.run
  exact lB _ _
 | .freeze ad n k,w=>by
  unfold Sem.run
  have h1:=lB (p:=p) k (w.freeze ad n)
  have h2:(w.freeze ad n).drawn=w.drawn:=by unfold World.freeze; split <;> rfl
  omega
 | .frozen ad k,w=>by
  unfold Sem.run
  exact lB _ _
 | .getObj r k,w=>by
  unfold Sem.run
  split
  · exact Nat.le_refl _
  · exact lB _ _
  · exact Nat.le_refl _
 | .setObj r o k,w=>by
  unfold Sem.run
  split
  · exact Nat.le_refl _
  · exact lB k { w with heap:=w.heap.setIfInBounds r o }
  · exact Nat.le_refl _
 | .choose q k,w=>by
  unfold Sem.run
  split
  · exact lB _ _
  · exact Nat.le_trans (Nat.le_succ _) (lB (k _) { w with drawn:=w.drawn+1 })
 | .sys c k,w=>by
  unfold Sem.run
  exact Nat.le_trans (pB w c) (lB _ _)
 | .program k,w=>by
  unfold Sem.run
  exact lB _ _
 | .mark m k,w=>by
  unfold Sem.run
  exact lB _ _
 | .halt hl,w=>Nat.le_refl _
theorem gX {α:Type} {p:Program}:∀ (s:Sem α) (w:World) (es:Array Event),w.drawn≤(rsw (s.runT p w es).1).drawn
 | .pure b,w,es=>Nat.le_refl _
 | .load m ad k,w,es=>by
  unfold Sem.runT
  split
  · exact gX _ _ _
  · split
    · exact gX _ _ _
    · exact Nat.le_refl _
 | .store m ad v k,w,es=>by
  have key:∀ v':Value,w.drawn≤(rsw ((match w.cell? ad with
   | some _ => if w.frozen? ad then ((Result.halt (.unsupported (.unsafePointer "a write to bytes that a string shares")) w : Result α), es) else k.runT p (w.setCell ad v') (es.push ⟨.cell ad, true, m == .atomic⟩)
   | none=>match w.farStore p ad v' (m == .atomic) with
    | .ok (w,touched)=>k.runT p w (es++touched.toArray.map (⟨.cell ·,true,m == .atomic⟩))
    | .error h=>(.halt h w,es):Result α×Array Event)).1).drawn:=fun v'=>by
   split
   · split
     · exact Nat.le_refl _
     · exact gX k (w.setCell ad v') _
   · split
     · rename_i w2 l hf
       exact Nat.le_trans (Nat.le_of_eq (ko hf).symm) (gX k w2 _)
     · exact Nat.le_refl _
  cases v <;> first | exact key _ | exact Nat.le_refl w.drawn
 | .new o k,w,es=>by
  unfold Sem.runT
  exact gX (k w.heap.size) { w with heap:=w.heap.push o } es
 | .shape r k,w,es=>by
  unfold Sem.runT
  exact gX _ _ _
 | .freeze ad n k,w,es=>by
  unfold Sem.runT
  have h1:=gX (p:=p) k (w.freeze ad n) es
  have h2:(w.freeze ad n).drawn=w.drawn:=by unfold World.freeze; split <;> rfl
  omega
 | .frozen ad k,w,es=>by
  unfold Sem.runT
  exact gX _ _ _
 | .getObj r k,w,es=>by
  unfold Sem.runT
  split
  · exact Nat.le_refl _
  · exact gX _ _ _
  · exact Nat.le_refl _
 | .setObj r o k,w,es=>by
  unfold Sem.runT
  split
  · exact Nat.le_refl _
  · exact gX k { w with heap:=w.heap.setIfInBounds r o } _
  · exact Nat.le_refl _
 | .choose q k,w,es=>by
  unfold Sem.runT
  split
  · exact gX _ _ _
  · exact Nat.le_trans (Nat.le_succ _) (gX (k _) { w with drawn:=w.drawn+1 } _)
 | .sys c k,w,es=>by
  unfold Sem.runT
  exact Nat.le_trans (pB w c) (gX _ _ _)
 | .program k,w,es=>by
  unfold Sem.runT
  exact gX _ _ _
 | .mark m k,w,es=>by
  unfold Sem.runT
  exact gX _ _ _
 | .halt hl,w,es=>Nat.le_refl _
theorem kE {α:Type} {p:Program} {s:Sem α} {w w':World} {a:α} (h:s.run p w=.ok a w'):w.drawn≤w'.drawn:=by have:=lB (p:=p) s w; rw [h] at this; exact this
theorem run_h {α:Type} {p:Program} {s:Sem α} {w w':World} {a:Halt} (h:s.run p w=.halt a w'):w.drawn≤w'.drawn:=by have:=lB (p:=p) s w; rw [h] at this; exact this
def GG (d:Nat):GStep→Prop
 | .go _ w _ | .comm _ _ _ _ w _ | .spawn _ _ w _ | .count _ w _ | .timer _ _ w _ | .alone _ _ w _ | .newcoro _ _ _ w _ | .coroswitch _ _ _ w _ | .collect _ w _ | .watch _ w _=>d≤w.drawn
 | .ended ..=>True
theorem GG.after {d:Nat} {es:Array Event} {s:GStep} (h:GG d s):GG d (s.after es):=by cases s <;> exact h
def SG (d:Nat):Stepped→Prop
 | .next m=>d≤m.world.drawn
 | .ended ..=>True
def MG (d:Nat):Move→Prop
 | .goroutine m _=>d≤m.world.drawn
 | .machine s _=>SG d s
theorem runT_k {α:Type} {p:Program} {s:Sem α} {w w':World} {a:α} {es es':Array Event} (h:s.runT p w es=(.ok a w',es')):w.drawn≤w'.drawn:=by have:=gX (p:=p) s w es; rw [h] at this; exact this
theorem runT_h {α:Type} {p:Program} {s:Sem α} {w w':World} {a:Halt} {es es':Array Event} (h:s.runT p w es=(.halt a w',es')):w.drawn≤w'.drawn:=by have:=gX (p:=p) s w es; rw [h] at this; exact this
theorem pJ {α:Type} {p:Program} {s:Sem α} {w w':World} {a:α} {es:Array Event} (h:(s.runT p w es).1=.ok a w'):w.drawn≤w'.drawn:=by have:=gX (p:=p) s w es; rw [h] at this; exact this
theorem runT_h1 {α:Type} {p:Program} {s:Sem α} {w w':World} {a:Halt} {es:Array Event} (h:(s.runT p w es).1=.halt a w'):w.drawn≤w'.drawn:=by have:=gX (p:=p) s w es; rw [h] at this; exact this
section
variable {d:Nat} {w:World}
theorem zB (w:World) (fd:Nat) (t:ByteArray) (o:Outcome):GG d (endWith w fd t o):=by
 unfold endWith
 simp only
 repeat' split
 all_goals trivial
theorem ou {fr:Frame} {m:String} (h:d≤w.drawn):GG d (endThrow fr m w):=h
theorem nF {p:Program} {fr:Frame} {v:Value} (h:d≤w.drawn):GG d (endPrinting p fr v w):=by
 unfold endPrinting
 simp only
 split
 · exact h
 · trivial
theorem q8 {p:Program} {fr:Frame} {cs:List Frame} {dy:Option Dying} {m:String} (h:d≤w.drawn):GG d (endFatal p fr cs dy m w):=by
 unfold endFatal
 simp only
 split
 · rename_i hq; exact Nat.le_trans h (kE hq)
 · trivial
 · trivial
theorem xz {p:Program} {fr:Frame} {dy:Dying} {f:Fatal} (h:d≤w.drawn):GG d (writeOn p fr dy f w):=by
 unfold writeOn
 simp only
 split
 · trivial
 · split
   · rename_i hq; exact Nat.le_trans h (runT_k hq)
   · rename_i hq; exact Nat.le_trans h (runT_h hq)
   · trivial
   · trivial
theorem die_d {p:Program} {fr:Frame} {dy:Dying} (h:d≤w.drawn):GG d (die p fr dy w):=by
 unfold die
 simp only
 split
 · exact xz h
 · split
   · split
     · exact h
     · exact zB _ _ _ _
   · split
     · exact h
     · split
       · rename_i hq; exact Nat.le_trans h (kE hq)
       · trivial
     · refine GG.after ?_
       rename_i t recv name _
       have k:=gX (p:=p) (invoke (.fn (.method name) #[]) #[.iface t recv]) w #[]
       generalize ((invoke (.fn (.method name) #[]) #[.iface t recv]).runT p w #[]).1=r at k ⊢
       have k2:=Nat.le_trans h k
       split <;> first | exact k2 | exact nF k2 | trivial
     · trivial
theorem kT {p:Program} {main:Bool} {fr:Frame} {cs:List Frame} {dy:Option Dying} {v:Value} (h:d≤w.drawn):GG d (doReturn p main fr cs dy v w):=by
 unfold doReturn
 split
 · split <;> exact h
 · split
   · exact h
   · trivial
   · split
     · exact h
     · split
       · exact h
       · trivial
theorem gif {c:Prop} [Decidable c] {a b:GStep} (ha:c→GG d a) (hb:¬ c→GG d b):GG d (if c then a else b):=by
 by_cases h:c
 · rw [if_pos h]; exact ha h
 · rw [if_neg h]; exact hb h
theorem qC {p:Program} {fr:Frame} {cs:List Frame} {dy:Option Dying} {df:Deferred} (h:d≤w.drawn):GG d (callDeferred p fr cs dy df w):=by
 unfold callDeferred
 refine gif (fun _=>trivial) (fun _=>?_)
 · have k:=gX (p:=p) (invoke df.target df.args) w #[]
   generalize (invoke df.target df.args).runT p w #[]=x at k ⊢
   obtain ⟨r,es⟩:=x
   have k2:=Nat.le_trans h k
   refine GG.after ?_
   split <;> first | exact k2 | trivial | exact q8 k2 | exact ou k2 | (split <;> first | exact k2 | trivial)
theorem unwind_d {p:Program} {main:Bool} {fr:Frame} {cs:List Frame} {dy:Option Dying} (h:d≤w.drawn):GG d (unwind p main fr cs dy w):=by
 unfold unwind
 split
 · rename_i block _ ds _
   have k:=gX (p:=p) (Instr.takeDeferred block) w #[]
   generalize (Instr.takeDeferred block).runT p w #[]=x at k ⊢
   obtain ⟨r,es⟩:=x
   have k2:=Nat.le_trans h k
   refine GG.after ?_
   split <;> first | exact k2 | trivial
 · exact qC h
 · split
   · trivial
   · split
     · trivial
     · split
       · exact h
       · split
         · split
           · exact h
           · split
             · rename_i hq; exact Nat.le_trans h (kE hq)
             · trivial
             · trivial
         · split
           · exact nF h
           · trivial
   · split
     · exact kT h
     · rename_i fn _
       have k:=gX (p:=p) (results fn fr.tmps) w #[]
       generalize (results fn fr.tmps).runT p w #[]=x at k ⊢
       obtain ⟨r,es⟩:=x
       have k2:=Nat.le_trans h k
       refine GG.after ?_
       split
       · exact kT k2
       · trivial
       · trivial
theorem early_d {p:Program} {fr:Frame} {cs:List Frame} {dy:Option Dying} {g:Nat} (h:d≤w.drawn):GG d (early p fr cs dy g w):=by
 have nY:∀ (o:Outcome) (w:World),d≤w.drawn→GG d (match w.heap[g]? with
  | some (.pending c elem)=>GStep.go { frame:=fr,callers:=cs,status:=.running,dying:=dy } { w with heap:=w.heap.setIfInBounds g (.cells c elem) }
  | _=>.ended o w):=fun o w h=>by
  split
  · exact h
  · trivial
 unfold early
 simp only
 split
 · exact nY _ w h
 · split
   · trivial
   · split
     · exact nY _ w h
     · split
       · exact nY _ w h
       · split
         · trivial
         · exact h
         · trivial
         · exact nY _ w h
         · split
           · exact h
           · split
             · exact nY _ w h
             · split
               · rename_i hq; exact nY _ _ (Nat.le_trans h (kE hq))
               · rename_i hq; exact Nat.le_trans h (kE hq)
               · trivial
theorem sn {p:Program} {fr:Frame} {cs:List Frame} {dy:Option Dying} {s:Sem Next} {l:Bool} (h:d≤w.drawn):GG d (stepG.apply p l fr cs dy s w):=by
 unfold stepG.apply
 simp only
 have k:w.drawn≤(rsw (if l=true then s.runT p w #[] else (s.run p w,#[])).1).drawn:=by
  split
  · exact gX _ _ _
  · exact lB _ _
 generalize (if l=true then s.runT p w #[] else (s.run p w,#[]))=x at k ⊢
 obtain ⟨r,es⟩:=x
 have k2:=Nat.le_trans h k
 refine GG.after ?_
 clear k h
 split
 all_goals (rename_i hq; rw [hq] at k2)
 all_goals try first | exact k2 | exact trivial | exact q8 k2 | exact ou k2 | exact early_d k2
 all_goals try (split <;> exact k2)
 exact gif (fun _=>ou k2) (fun _=>k2)
theorem oper_d {p:Program} {fr:Frame} {cs:List Frame} {dy:Option Dying} {l:Bool} (h:d≤w.drawn):GG d (stepG.oper p l fr cs dy w):=by
 unfold stepG.oper
 split
 · trivial
 · split <;> exact sn h
theorem exec_d {p:Program} {main:Bool} {fr:Frame} {cs:List Frame} {dy:Option Dying} {l:Bool} (h:d≤w.drawn):GG d (stepG.exec p main l fr cs dy w):=by
 unfold stepG.exec
 simp only
 split
 all_goals try first | exact h | exact trivial | exact sn h | exact oper_d h
 all_goals try (split <;> first | exact h | exact trivial)
 all_goals try (refine GG.after ?_; split <;> first | exact trivial | (rename_i hq; first | exact sn (Nat.le_trans h (pJ hq)) | exact Nat.le_trans h (pJ hq) | exact Nat.le_trans h (runT_h1 hq)))
 all_goals try (split; (exact gif (fun _=>h) (fun _=>trivial)); (refine GG.after ?_; split; (rename_i hq; exact kT (Nat.le_trans h (pJ hq))); exact trivial))
 all_goals try (rename_i row args tail _; cases Extern.next row with
  | none=>exact trivial
  | some e=>exact sn h)
 · rename_i id k _
   cases exitTo id k with
   | some k=>exact h
   | none =>
    dsimp only [Option.elim]
    split
    · exact gif (fun _=>h) (fun _=>trivial)
    · refine GG.after ?_
      split
      · rename_i hq; exact kT (Nat.le_trans h (pJ hq))
      · trivial
 · rename_i id k _
   cases gotoIn id k with
   | some k=>exact h
   | none =>
    dsimp only [Option.elim]
    split
    · exact gif (fun _=>h) (fun _=>trivial)
    · refine GG.after ?_
      split
      · rename_i hq; exact kT (Nat.le_trans h (pJ hq))
      · trivial
 · refine gif (fun _=>h) (fun _=>?_)
   split
   · rename_i hq; exact Nat.le_trans h (kE hq)
   · trivial
 · exact gif (fun _=>oper_d h) (fun _=>h)
theorem stepG_d {p:Program} {main:Bool} {g:Goroutine} {l:Bool} (h:d≤w.drawn):GG d (stepG p main g w l):=by
 unfold stepG
 split
 split
 · exact die_d h
 · exact exec_d h
 · exact unwind_d h
theorem sif {c:Prop} [Decidable c] {a b:Stepped} (ha:c→SG d a) (hb:¬ c→SG d b):SG d (if c then a else b):=by
 by_cases h:c
 · rw [if_pos h]; exact ha h
 · rw [if_neg h]; exact hb h
theorem look_d {p:Program} {gs:Array Goroutine} {rest:Rest} (h:d≤w.drawn):SG d (Go.look p gs rest w):=by
 unfold Go.look
 split
 · simp only
   refine sif (fun _=>trivial) (fun _=>?_)
   split
   · trivial
   · split
     · rename_i hq
       have k:=kE hq
       exact Nat.le_trans h k
     · trivial
     · trivial
 · trivial
theorem serve_d {p:Program} {m:Machine} {k:Nat} (h:d≤m.world.drawn):SG d (serve p m k):=by
 unfold serve
 split
 · trivial
 · exact h
 · simp only
   split
   · trivial
   · exact h
theorem r9 {p:Program} {rest:Rest} {gs:Array Goroutine} {i:Nat} {g:Goroutine} {cases:Array CommCase} {bl:Bool} {sh:CommShape} (h:d≤w.drawn):SG d (communicate p rest gs i g cases bl sh w).1:=by
 unfold communicate
 simp only
 split
 · trivial
 · split
   · split
     · split
       · rename_i hq
         unfold waitingAt at hq
         split at hq
         · split at hq
           · cases hq; exact h
           · cases hq
         · cases hq; exact h
       · trivial
     · exact h
   · split
     · trivial
     · rename_i hq
       have k:=Nat.le_trans h (kE hq)
       repeat' split
       all_goals try first | exact k | exact trivial
       all_goals try (rename_i hq2; have k2:=kE hq2; exact Nat.le_trans k k2)
       all_goals try (rename_i hq2 _; have k2:=kE hq2; exact Nat.le_trans k k2)
       all_goals try (rename_i hq2; have k2:=run_h hq2; exact Nat.le_trans k k2)
       all_goals try (rename_i hq2 _; have k2:=run_h hq2; exact Nat.le_trans k k2)
       all_goals try (rename_i hq2 _ _; have k2:=kE hq2; exact Nat.le_trans k k2)
       all_goals (rename_i hq2 _ _ _; have k2:=kE hq2; exact Nat.le_trans k k2)
theorem ve {m:Machine} {k:Nat} {t:Timer} {a b:Nat} (h:d≤m.world.drawn):d≤(retime m k t a b).2.world.drawn:=by
 unfold retime
 simp only
 split
 · unfold drain
   split <;> exact h
 · exact h
theorem yE {m:Machine} {var:Addr} {f:Nat→Timer→Value×Machine} (hf:∀ k t,d≤(f k t).2.world.drawn) {v:Value} {m':Machine} (e:timerOp.named m var f=.ok (v,m')):d≤m'.world.drawn:=by
 unfold timerOp.named at e
 split at e
 · rename_i k _
   have:=hf k (m.rest.timers.getD k default)
   cases hx:f k (m.rest.timers.getD k default)
   rw [hx] at e this
   cases e
   exact this
 · cases e
theorem xL {m:Machine} {op:TimerOp} (h:d≤m.world.drawn) {v:Value} {m':Machine} (e:timerOp m op=.ok (v,m')):d≤m'.world.drawn:=by
 unfold timerOp at e
 split at e
 · split at e
   · cases e; exact h
   · split at e
     · split at e
       · cases e
       · cases e; exact h
     · cases e
 · exact yE (fun k t=>ve h) e
 · split at e
   · rename_i var when period _ m2 hm
     refine yE (fun k t=>ve ?_) e
     unfold timerOp.opened at hm
     split at hm
     · split at hm
       · cases hm; exact h
       · cases hm
     · cases hm; exact h
   · cases e
 · cases e; exact h
theorem runT_dm {p:Program} {m:Machine} {i:Nat} {l:Bool} (h:d≤m.world.drawn):SG d (Go.runT p m i l).1:=by
 unfold Go.runT
 simp only
 have k:=stepG_d (p:=p) (main:=i == 0) (g:=(m.gs.swapAt! i { (default:Goroutine) with status:=.finished }).1) (w:=m.world) (l:=l) h
 split <;> (rename_i hq; rw [hq] at k)
 · trivial
 · exact r9 k
 · exact k
 · exact k
 · exact sif (fun _=>trivial) (fun _=>k)
 · exact k
 · exact look_d k
 · exact k
 · exact k
 · split
   · exact k
   · split
     · rename_i hq2
       unfold endThrow dieOf at hq2
       cases hq2; exact k
     · trivial
   · trivial
 · split
   · rename_i hq2; have k2:=xL (by exact k) hq2; exact k2
   · split
     · rename_i hq2
       unfold endThrow dieOf at hq2
       cases hq2; exact k
     · trivial
   · trivial
   · trivial
theorem uW {p:Program} {m:Machine} (h:d≤m.world.drawn):MG d (askOn p m):=by
 unfold askOn
 simp only
 split
 · trivial
 · rename_i hq
   have k:=Nat.le_trans h (kE hq)
   have pick:∀ (m2:Machine) (rs:List Nat),d≤m2.world.drawn→MG d (match (choose (.sched rs.length)).run p m2.world with
    | .halt _ w => .machine (.ended (.stuck "sched" "") w)
    | .ok k world =>
     if rs.length≤1 then .goroutine { m2 with world } (rs.getD k 0) else
     match (choose (Question.extern "sched.slice" 65536)).run p world with
     | .halt _ w => .machine (.ended (.stuck "sched.slice" "") w)
     | .ok n world=>.goroutine { m2 with world,rest:={ m2.rest with slice:=if n=0 then none else some (rs.getD k 0,n) } } (rs.getD k 0)):=fun m2 rs h2=>by
    split
    · trivial
    · rename_i hq2
      have k2:=Nat.le_trans h2 (kE hq2)
      split
      · exact k2
      · split
        · trivial
        · rename_i hq3
          have k3:=Nat.le_trans k2 (kE hq3)
          exact k3
   split
   · exact serve_d k
   · split
     · split
       · exact k
       · split
         · exact k
         · split <;> trivial
     · split
       · exact pick { m with world:=_ } _ k
       · split
         · trivial
         · rename_i hq2
           have k2:=Nat.le_trans k (kE hq2)
           exact pick { m with world:=_ } _ k2
         · rename_i hq2
           have k2:=Nat.le_trans k (kE hq2)
           exact k2
         · rename_i hq2
           have k2:=Nat.le_trans k (kE hq2)
           exact pick _ _ k2
theorem ask_d {p:Program} {m:Machine} (h:d≤m.world.drawn):MG d (Go.ask p m):=by
 unfold Go.ask
 split
 · split
   · trivial
   · rename_i hq
     have k:=Nat.le_trans h (kE hq)
     have k2:=look_d (p:=p) (gs:=m.gs) (rest:=m.rest) k
     split
     · rename_i hq2; rw [hq2] at k2; exact uW k2
     · exact k2
   · rename_i hq
     have k:=Nat.le_trans h (kE hq)
     exact uW k
 · exact uW h
theorem move_d {p:Program} {m:Machine} (h:d≤m.world.drawn):MG d (move p m):=by
 unfold move
 split
 · split
   · exact h
   · trivial
 · split
   · split
     · exact h
     · exact ask_d h
   · exact ask_d h
theorem step_d {p:Program} {m:Machine} (h:d≤m.world.drawn):SG d (step p m):=by
 unfold step stepT
 have k:=move_d (p:=p) h
 split <;> (rename_i hq; rw [hq] at k)
 · exact runT_dm k
 · exact k
theorem runN_d {p:Program}:∀ (n:Nat) {m m':Machine},runN p n m=.next m'→m.world.drawn≤m'.world.drawn
 | 0,m,m',h=>by
  unfold runN at h
  cases h; exact Nat.le_refl _
 | n+1,m,m',h=>by
  unfold runN at h
  have k:=step_d (p:=p) (m:=m) (Nat.le_refl _)
  split at h
  · rename_i m1 hq
    rw [hq] at k
    exact Nat.le_trans k (runN_d n h)
  · rw [h] at k
    exact k
end
theorem Calls.drawn {P:Program} {f:FuncId} {args:Array Value} {w:World} {R:Ending→World→Prop} (h:Calls P f args w R) (hR:∀ e w',R e w'→∃ v,e=.returned v) :
 Calls P f args w fun e w'=>R e w'∧w.drawn≤w'.drawn:=by
 intro cs
 obtain ⟨e,w',fr,h1,h2,h3⟩:=h cs
 obtain ⟨v,rfl⟩:=hR e w' h1
 refine ⟨.returned v,w',fr,⟨h1,?_⟩,h2,h3⟩
 obtain ⟨n,hn⟩:Steps P _ _:=h2
 exact runN_d n hn
end Go.Sx
namespace Go.Proofs
open Go.Shelf
def Tryz.lays105_ren:Go.Shelf.Ren:=⟨fun | 105=>324 | 212=>350 | 99=>351 | 165=>352 | 166=>353 | 170=>354 | 169=>355 | 263=>369 | 264=>325 | 206=>370 | 240=>371 | 241=>372 | 276=>378 | 277=>379 | n=>n,fun | 9=>9 | 3=>3 | 4=>4 | 20=>20 | 0=>0 | 46=>348 | 109=>408 | 5=>5 | 72=>413 | 76=>417 | 51=>343 | 146=>431 | 53=>260 | 148=>376 | 70=>411 | 37=>339 | 75=>416 | 127=>433 | 164=>438 | 80=>345 | n=>n,fun | n=>n⟩
theorem Tryz.lays105:Go.Proofs.Lays.n105 Tryz.prog Tryz.lays105_ren:={
 mixed:=by kernel_rfl
 f99:=Tryz.func351.trans (congrArg some (by kernel_rfl))
 f105:=Tryz.func324.trans (congrArg some (by kernel_rfl))
 f165:=Tryz.func352.trans (congrArg some (by kernel_rfl))
 f166:=Tryz.func353.trans (congrArg some (by kernel_rfl))
 f169:=Tryz.func355.trans (congrArg some (by kernel_rfl))
 f170:=Tryz.func354.trans (congrArg some (by kernel_rfl))
 f206:=Tryz.func370.trans (congrArg some (by kernel_rfl))
 f212:=Tryz.func350.trans (congrArg some (by kernel_rfl))
 f240:=Tryz.func371.trans (congrArg some (by kernel_rfl))
 f241:=Tryz.func372.trans (congrArg some (by kernel_rfl))
 f263:=Tryz.func369.trans (congrArg some (by kernel_rfl))
 f264:=Tryz.func325.trans (congrArg some (by kernel_rfl))
 f276:=Tryz.func378.trans (congrArg some (by kernel_rfl))
 f277:=Tryz.func379.trans (congrArg some (by kernel_rfl))
 t0:=Tryz.underlying0
 a0:=Tryz.isAgg0
 z0:=Tryz.sizeOf0
 v0:=Tryz.zeroValue0
 t3:=Tryz.underlying3
 a3:=Tryz.isAgg3
 z3:=Tryz.sizeOf3
 v3:=Tryz.zeroValue3
 t4:=Tryz.underlying4
 a4:=Tryz.isAgg4
 z4:=Tryz.sizeOf4
 v4:=Tryz.zeroValue4
 t5:=nn5
 a5:=aa5
 z5:=zz5
 v5:=vv5
 t9:=nn9
 a9:=Tryz.isAgg9
 z9:=Tryz.sizeOf9
 v9:=Tryz.zeroValue9
 t20:=Tryz.underlying20
 a20:=Tryz.isAgg20
 z20:=Tryz.sizeOf20
 v20:=Tryz.zeroValue20
 t37:=nn339
 a37:=Tryz.isAgg339
 z37:=Tryz.sizeOf339
 v37:=Tryz.zeroValue339
 t46:=Tryz.underlying348
 a46:=Tryz.isAgg348
 z46:=Tryz.sizeOf348
 v46:=Tryz.zeroValue348
 t51:=Tryz.underlying343
 a51:=Tryz.isAgg343
 z51:=Tryz.sizeOf343
 v51:=Tryz.zeroValue343
 t53:=Tryz.underlying260
 a53:=Tryz.isAgg260
 z53:=Tryz.sizeOf260
 v53:=Tryz.zeroValue260
 t70:=Tryz.underlying411
 a70:=Tryz.isAgg411
 z70:=Tryz.sizeOf411
 v70:=Tryz.zeroValue411
 t72:=Tryz.underlying413
 a72:=Tryz.isAgg413
 z72:=Tryz.sizeOf413
 v72:=Tryz.zeroValue413
 t75:=Tryz.underlying416
 a75:=Tryz.isAgg416
 z75:=Tryz.sizeOf416
 v75:=Tryz.zeroValue416
 t76:=Tryz.underlying417
 a76:=Tryz.isAgg417
 z76:=Tryz.sizeOf417
 v76:=Tryz.zeroValue417
 t109:=Tryz.underlying408
 a109:=Tryz.isAgg408
 z109:=Tryz.sizeOf408
 v109:=Tryz.zeroValue408
 t127:=Tryz.underlying433
 a127:=Tryz.isAgg433
 z127:=Tryz.sizeOf433
 v127:=Tryz.zeroValue433
 t146:=Tryz.underlying431
 a146:=Tryz.isAgg431
 z146:=Tryz.sizeOf431
 v146:=Tryz.zeroValue431
 t148:=Tryz.underlying376
 a148:=Tryz.isAgg376
 z148:=Tryz.sizeOf376
 v148:=Tryz.zeroValue376
 t164:=Tryz.underlying438
 a164:=Tryz.isAgg438
 z164:=Tryz.sizeOf438
 v164:=Tryz.zeroValue438 }
theorem Tryz.Builder_Extra_105:Builder.Extra Tryz.prog Tryz.lays105_ren:={
 sizeBuilder:=by kernel_rfl
 liesBuilder:=by kernel_rfl
 t5:=nn5
 a5:=aa5
 z5:=zz5
 v5:=vv5
 infoByte:=by kernel_rfl
 cellsByte:=by kernel_rfl
 sizeByte:=by kernel_rfl
 neB5:=by decide }
end Go.Proofs
namespace Go.Sx
open Go Go.RowKit Go.Proofs
theorem aaw (s:ByteArray) (c:Nat) (hc:c≤9223372036854775807) (hl:s.size*c≤140737488355328) (w0:World):Calls Tryz.prog 324 #[.string s,.int .i64 ((c:Nat):Int)] w0 (dh w0 (.string ⟨(Lib.repeatL s.data.toList c).toArray⟩) True) :=
 (Calls.drawn (Any.strings_Repeat Tryz.lays105 Tryz.Builder_Extra_105 s c w0 hc hl) fun e w' h=>⟨_,h.1⟩).mono fun e w' h=>⟨h.1.1,trivial,⟨h.1.2.os,h.1.2.tape,h.1.2.output,h.1.2.size,h.1.2.block,h.2⟩⟩
theorem Zeros_ct (c:Nat) (hc:c≤140737488355328) (w0:World):Calls Tryz.prog 324 #[.string ⟨#[0]⟩,.int .i64 ((c:Nat):Int)] w0 (dh w0 (.string ⟨(Lib.repeatL (ByteArray.data ⟨#[0]⟩).toList c).toArray⟩) True) :=
 aaw ⟨#[0]⟩ c (by omega) (by show 1*c≤_; omega) w0
end Go.Sx
namespace Go.Sx
open Go Go.RowKit Go.Proofs
theorem root_ct (a:Nat) (za:SzB 30 a) (w0:World):Calls Tryz.prog 287 #[(.string (bs a))] w0 (dh w0 (.string (bs (bM a))) (SzB 29 (bM a))) :=
 l6 a za (fun w0=>Zeros_ct (rexp a / 8) (by
  have hlz:(le a).length≤65536:=by unfold SzB at za; omega
  have hn:nbit a=8*((le a).length - 1)+Lib.bitLen (oC a):=rfl
  have hm:rexp a=(nbit a+1) / 2:=rfl
  rcases Nat.eq_zero_or_pos a with rfl | h0
  · exact Nat.le_trans (Nat.div_le_self _ _) (by decide +kernel)
  · obtain ⟨t1,t2,t3,_⟩:=pA h0
    omega) w0) w0
end Go.Sx
namespace Go.Sx
def RtR (_:GR):Prop:=True
def RtV (i:Iv):Prop:=RtR i.lo∧RtR i.hi
end Go.Sx
namespace Go.Sx
theorem mK (x:Rat):0≤x*x:=by
 rcases (show 0≤x∨0≤-x by grind) with h | h
 · exact iq h h
 · have:=iq h h; grind
theorem div_sq {n d:Rat} (hd:d≠0):n / d*(n / d)=n*n / (d*d):=by
 rw [Rat.div_def,Rat.div_def,Rat.inv_mul_rev]; grind
def sgn (a b:Nat):Int:=if a < b then -1 else if b < a then 1 else 0
theorem zT {x y:GR} (hx:ROk x) (hy:ROk y):ah y x=- ah x y :=
 (q9 hy hx).uniq ((q9 hx hy).neg.congr fun k=>by grind)
theorem v7 {x:GR} (hx:ROk x):ah x x=0:=by
 have:=zT hx hx; omega
theorem rcmp_lt {x y z:GR} (hx:ROk x) (hy:ROk y) (hz:ROk z) (h1:ah x y=-1) (h2:ah y z=-1):ah x z=-1:=by
 have a:=q9 hx hy
 have b:=q9 hy hz
 rw [h1] at a
 rw [h2] at b
 exact (q9 hx hz).uniq ((a.add b).congr fun k=>by grind)
theorem tV {α:Type} {p q:α→Bool}:∀ {l:List α},(∀ z∈l,p z=true→q z=true)→(∃ z∈l,q z=true∧p z=false)→l.countP p < l.countP q
 | [],_,⟨_,h,_⟩=>by cases h
 | a::l,h,⟨z,hz,hq,hp⟩=>by
  have h1:∀ z∈l,p z=true→q z=true:=fun z hz=>h z (List.mem_cons_of_mem _ hz)
  have h2:l.countP p≤l.countP q:=List.countP_mono_left h1
  rw [List.countP_cons,List.countP_cons]
  rcases List.mem_cons.1 hz with rfl | hm
  · rw [hq,hp]; simp; omega
  · have h3:=tV h1 ⟨z,hm,hq,hp⟩
    by_cases ha:p a=true
    · rw [ha,h a (List.mem_cons_self ..) ha]; simp; omega
    · rw [if_neg ha]; split <;> omega
class Key where
 l:List GR
 ok:∀ x∈l,ROk x
 sz:l.length < 100000
 z:default∈l
 rt:∀ x∈l,RtR x
 szr:∀ x∈l,SzR 36 x
def Tm [K:Key] (x:GR):Prop:=x∈K.l
def tk [K:Key] (x:GR):Nat:=K.l.countP fun y=>ah y x == -1
section
variable [K:Key]
theorem Tm.iff {x:GR}:decide (x∈K.l)=true↔Tm x:=decide_eq_true_iff
theorem ww:Tm (default:GR):=K.z
theorem Tm.rt {x:GR} (h:Tm x):RtR x:=K.rt x h
theorem Tm.szr {x:GR} (h:Tm x):SzR 36 x:=K.szr x h
theorem Tm.ok {x:GR} (h:Tm x):ROk x:=K.ok x h
theorem uh {x y:GR} (hx:Tm x) (hy:Tm y) (h:ah x y=-1):tk x < tk y:=by
 refine tV (fun z hz hp=>?_) ⟨x,hx,by rw [h]; rfl,by rw [v7 hx.ok]; rfl⟩
 rw [eq_of_beq hp |> fun e=>rcmp_lt (K.ok z hz) hx.ok hy.ok e h]; rfl
theorem Tm.cmp {x y:GR} (hx:Tm x) (hy:Tm y):ah x y=sgn (tk x) (tk y):=by
 unfold sgn
 rcases (q9 hx.ok hy.ok).cases with h | h | h
 · have:=uh hy hx (by rw [zT hx.ok hy.ok,h])
   rw [if_neg (by omega),if_pos this,h]
 · rw [if_pos (uh hx hy h),h]
 · rw [v6 hx.ok hy.ok h,v7 hy.ok,if_neg (by omega),if_neg (by omega)]
theorem Tm.inj {x y:GR} (hx:Tm x) (hy:Tm y):tk x=tk y↔x=y:=by
 constructor
 · intro e
   have h:=hx.cmp hy
   unfold sgn at h
   rw [if_neg (by omega),if_neg (by omega)] at h
   exact v6 hx.ok hy.ok h
 · intro e; rw [e]
theorem wx {x:GR} (_:Tm x):tk x < 100000:=Nat.lt_of_le_of_lt List.countP_le_length K.sz
end
attribute [irreducible] tk Tm
end Go.Sx
namespace Go.Sx
theorem iV {a b:Nat} (h:a < b):sgn a b=-1:=if_pos h
theorem i8 {a b:Nat} (h:b < a):sgn a b=1:=by unfold sgn; rw [if_neg (by omega),if_pos h]
theorem fP (a:Nat):sgn a a=0:=by unfold sgn; rw [if_neg (Nat.lt_irrefl a),if_neg (Nat.lt_irrefl a)]
theorem lI {a b:Nat}:sgn a b < 0↔a < b:=by
 rcases Nat.lt_trichotomy a b with h | h | h
 · rw [iV h]; simp [h]
 · subst h; rw [fP]; simp
 · rw [i8 h]; simp; omega
theorem sgn_zero {a b:Nat}:sgn a b=0↔a=b:=by
 rcases Nat.lt_trichotomy a b with h | h | h
 · rw [iV h]; simp; omega
 · subst h; rw [fP]; simp
 · rw [i8 h]; simp; omega
def ci (i:Iv):Int:=bif i.openLo then 1 else 0
def cU {α:Type} (a b:U α):Int:=nI [ah a.iv.lo b.iv.lo,bN (ci a.iv) (ci b.iv),ah a.iv.hi b.iv.hi]
theorem or3 (a b c:Int):nI [a,b,c]=if a≠0 then a else if b≠0 then b else c:=by
 unfold nI
 by_cases ha:a=0
 · by_cases hb:b=0
   · by_cases hc:c=0
     · subst ha hb hc; rfl
     · subst ha hb
       have e:(c != 0)=true:=bne_iff_ne.2 hc
       simp [bZ,fin,kV,gt,e]
   · subst ha
     have e:(b != 0)=true:=bne_iff_ne.2 hb
     simp [bZ,fin,kV,gt,e,hb]
 · have e:(a != 0)=true:=bne_iff_ne.2 ha
   simp [bZ,fin,kV,gt,e,ha]
theorem ci00:bN 0 0=0:=by decide +kernel
theorem ci01:bN 0 1=-1:=by decide +kernel
theorem ci10:bN 1 0=1:=by decide +kernel
theorem ci11:bN 1 1=0:=by decide +kernel
def Tv [K:Key] (i:Iv):Prop:=Tm i.lo∧Tm i.hi
def kU [K:Key] (i:Iv):Nat:=(tk i.lo*2+(bif i.openLo then 1 else 0))*100000+tk i.hi
theorem xm [K:Key] {α:Type} {a b:U α} (ha:Tv a.iv) (hb:Tv b.iv):cU a b=sgn (kU a.iv) (kU b.iv):=by
 have l1:=wx ha.2
 have l2:=wx hb.2
 unfold cU
 rw [or3,ha.1.cmp hb.1,ha.2.cmp hb.2]
 unfold kU ci
 generalize tk a.iv.lo=p at *
 generalize tk b.iv.lo=q at *
 generalize tk a.iv.hi=s at *
 generalize tk b.iv.hi=t at *
 have key:∀ x y:Nat,x≤1→y≤1→(if sgn p q≠0 then sgn p q else if sgn x y≠0 then sgn x y else sgn s t)=sgn ((p*2+x)*100000+s) ((q*2+y)*100000+t):=by
  intro x y hx hy
  rcases Nat.lt_trichotomy p q with h | h | h
  · rw [iV h,if_pos (by decide)]; exact (iV (by omega)).symm
  · subst h
    rw [fP,if_neg (by decide)]
    rcases Nat.lt_trichotomy x y with h | h | h
    · rw [iV h,if_pos (by decide)]; exact (iV (by omega)).symm
    · subst h
      rw [fP,if_neg (by decide)]
      rcases Nat.lt_trichotomy s t with h | h | h
      · rw [iV h,iV (by omega)]
      · subst h
        rw [fP,fP]
      · rw [i8 h,i8 (by omega)]
    · rw [i8 h,if_pos (by decide)]; exact (i8 (by omega)).symm
  · rw [i8 h,if_pos (by decide)]; exact (i8 (by omega)).symm
 cases a.iv.openLo <;> cases b.iv.openLo <;> simp only [cond_true,cond_false,ci00,ci01,ci10,ci11]
 · exact key 0 0 (by decide) (by decide)
 · exact key 0 1 (by decide) (by decide)
 · exact key 1 0 (by decide) (by decide)
 · exact key 1 1 (by decide) (by decide)
theorem wC [K:Key] {α:Type} [Inhabited (U α)] {c:U α→U α→Int} (hc:∀ a b,c a b=cU a b) {d:List (U α)} (hd:∀ u∈d,Tv u.iv) :
 (tx c d 0 d.length).Perm d∧(tx c d 0 d.length).Pairwise fun a b=>kU a.iv≤kU b.iv:=by
 refine ⟨ml d,?_⟩
 have hp:=tw (c:=c) (S:=fun u=>Tv u.iv)
  (fun x y hx hy h=>by rw [hc,xm hx hy,lI] at h; rw [hc,xm hy hx,lI]; omega)
  (fun x y z hx hy hz h1 h2=>by rw [hc,xm hx hy,lI] at h1; rw [hc,xm hy hz,lI] at h2; rw [hc,xm hx hz,lI]; omega) hd
 refine hp.imp_of_mem (fun {a b} ha hb h=>?_)
 have ha':=hd a ((ml d).mem_iff.1 ha)
 have hb':=hd b ((ml d).mem_iff.1 hb)
 rw [hc,xm hb' ha',lI] at h
 omega
def io [K:Key] (i:Iv):Nat:=2*tk i.lo+(bif i.openLo then 1 else 0)
def kj [K:Key] (i:Iv):Int:=2*tk i.hi - (bif i.openHi then 1 else 0)
def Wv [K:Key] (i:Iv):Prop:=Tv i∧tk i.lo≤tk i.hi∧(tk i.lo=tk i.hi→i.openLo=false∧i.openHi=false)
theorem Wv.le [K:Key] {i:Iv} (h:Wv i):(io i:Int)≤kj i:=by
 obtain ⟨_,h1,h2⟩:=h
 unfold io kj
 by_cases e:tk i.lo=tk i.hi
 · rw [(h2 e).1,(h2 e).2,e]; simp
 · cases i.openLo <;> cases i.openHi <;> simp <;> omega
theorem nM [K:Key] {a b:Iv} (ha:Tv a) (hb:Tv b):cA a b=decide (kj a < (io b:Int)):=by
 unfold cA
 rw [ha.2.cmp hb.1]
 unfold kj io
 rcases Nat.lt_trichotomy (tk a.hi) (tk b.lo) with h | h | h
 · rw [iV h]
   cases a.openHi <;> cases b.openLo <;> simp <;> omega
 · rw [h,fP]
   cases a.openHi <;> cases b.openLo <;> simp <;> omega
 · rw [i8 h]
   cases a.openHi <;> cases b.openLo <;> simp <;> omega
theorem j0 [K:Key] {i:Iv} (h:Tv i):aN i=decide (tk i.lo=tk i.hi):=by
 unfold aN
 exact decide_eq_decide.2 (h.1.inj h.2).symm
end Go.Sx
namespace Go.Sx
def Ts [K:Key] (l:List GR):Prop:=(∀ x∈l,Tm x)∧l.Pairwise fun x y=>tk x < tk y
theorem iI {S R:Type} {B:S→Nx S R} (n:Nat) {s s':S} (h:B s=.go s'):bZ B (n+1) s=bZ B n s':=by
 show (match B s with | .go s'=>bZ B n s' | .out s'=>.inl s' | .ret r=>.inr r)=_
 rw [h]
theorem jZ {S R:Type} {B:S→Nx S R} (n:Nat) {s s':S} (h:B s=.out s'):bZ B (n+1) s=.inl s':=by
 show (match B s with | .go s'=>bZ B n s' | .out s'=>.inl s' | .ret r=>.inr r)=_
 rw [h]
theorem yP {S R:Type} {B:S→Nx S R} (n:Nat) {s:S} {r:R} (h:B s=.ret r):bZ B (n+1) s=.inr r:=by
 show (match B s with | .go s'=>bZ B n s' | .out s'=>.inl s' | .ret r=>.inr r)=_
 rw [h]
theorem qb [K:Key] {x:GR} (hx:Tm x):∀ (s p l:List GR) (k:Nat),l=p++s→s.length < k→Ts l→(∀ y∈p,tk y < tk x) →
 ∃ r,fin (bZ (fun s=>dE l x s) k p.length) (fun s=>jt l x s) (fun r=>r)=r∧Ts r∧∀ y,y∈r↔y∈l∨y=x
 | [],p,l,k+1,hl,_,ht,hp=>by
  have hn:¬ ((p.length:Nat):Int) < ((l.length:Nat):Int):=by rw [hl]; simp
  rw [List.append_nil] at hl
  subst hl
  refine ⟨l++[x],?_,⟨?_,?_⟩,fun y=>by simp⟩
  · unfold bZ dE
    rw [decide_eq_false hn]
    rfl
  · intro y hy
    rcases List.mem_append.1 hy with hy | hy
    · exact ht.1 y hy
    · rw [List.mem_singleton.1 hy]; exact hx
  · rw [List.pairwise_append]
    exact ⟨ht.2,List.pairwise_singleton _ _,fun a ha b hb=>by rw [List.mem_singleton.1 hb]; exact hp a ha⟩
 | y::s,p,l,k+1,hl,hk,ht,hp=>by
  have hn:((p.length:Nat):Int) < ((l.length:Nat):Int):=by rw [hl]; simp; omega
  have hg:gt l p.length=y:=by rw [hl]; exact oe rfl
  have hy:Tm y:=ht.1 y (by rw [hl]; simp)
  have hc:ah x y=sgn (tk x) (tk y):=hx.cmp hy
  have htl:=ht.2
  rw [hl,List.pairwise_append,List.pairwise_cons] at htl
  rcases Nat.lt_trichotomy (tk x) (tk y) with h | h | h
  · refine ⟨((([]++(l.take p.length))++[x])++(l.drop p.length)),?_,?_,?_⟩
    · unfold bZ dE
      rw [decide_eq_true hn,hg,hc,iV h]
      rfl
    · have e:((([]++(l.take p.length))++[x])++(l.drop p.length))=p++x::y::s:=by rw [hl]; simp
      rw [e]
      refine ⟨fun z hz=>?_,?_⟩
      · rcases List.mem_append.1 hz with hz | hz
        · exact ht.1 z (by rw [hl]; simp [hz])
        · rcases List.mem_cons.1 hz with rfl | hz
          · exact hx
          · exact ht.1 z (by rw [hl]; exact List.mem_append_right _ hz)
      · rw [List.pairwise_append,List.pairwise_cons,List.pairwise_cons]
        refine ⟨htl.1,⟨fun z hz=>?_,htl.2.1⟩,fun a ha b hb=>?_⟩
        · rcases List.mem_cons.1 hz with rfl | hz
          · exact h
          · exact Nat.lt_trans h (htl.2.1.1 z hz)
        · rcases List.mem_cons.1 hb with rfl | hb
          · exact hp a ha
          · exact htl.2.2 a ha b hb
    · intro z
      rw [hl]
      simp only [List.nil_append,List.take_left',List.drop_left',List.append_assoc,List.mem_append,List.mem_singleton,List.singleton_append,List.mem_cons]
      constructor
      · rintro (h | h | h)
        · exact .inl (.inl h)
        · exact .inr h
        · exact .inl (.inr h)
      · rintro ((h | h) | h)
        · exact .inl h
        · exact .inr (.inr h)
        · exact .inr (.inl h)
  · have e:=(hx.inj hy).1 h
    refine ⟨l,?_,ht,fun z=>⟨.inl,fun hz=>hz.elim id fun e'=>by rw [e',e,hl]; simp⟩⟩
    unfold bZ dE
    rw [decide_eq_true hn,hg,hc,h,fP]
    rfl
  · obtain ⟨r,h1,h2⟩:=qb hx s (p++[y]) l k (by rw [hl]; simp) (by simp at hk; omega) ht (fun z hz=>by
     rcases List.mem_append.1 hz with hz | hz
     · exact hp z hz
     · rw [List.mem_singleton.1 hz]; exact h)
    refine ⟨r,?_,h2⟩
    rw [← h1,List.length_append]
    have e:dE l x p.length=.go (p.length+1):=by
     unfold dE
     rw [decide_eq_true hn,hg,hc,i8 h]
     rfl
    rw [iI (B:=fun s=>dE l x s) k e]
    rfl
theorem tC [K:Key] {l:List GR} {x:GR} (hl:Ts l) (hx:Tm x):Ts (cj l x)∧∀ y,y∈cj l x↔y∈l∨y=x:=by
 obtain ⟨r,h1,h2⟩:=qb hx l [] l (l.length - 0+1) rfl (by omega) hl (fun _ h=>by cases h)
 have e:cj l x=r:=by
  unfold cj
  exact h1
 rw [e]
 exact h2
def o7 (l:List Iv):List GR:=l.foldl (fun o i=>cj (cj o i.lo) i.hi) []
theorem zA [K:Key] {l:List Iv} (hl:∀ i∈l,Tv i):∀ {o:List GR},Ts o→Ts (l.foldl (fun o i=>cj (cj o i.lo) i.hi) o)∧∀ y,y∈l.foldl (fun o i=>cj (cj o i.lo) i.hi) o↔y∈o∨∃ i∈l,y=i.lo∨y=i.hi:=by
 induction l with
 | nil=>intro o ho; exact ⟨ho,fun y=>by simp⟩
 | cons i l ih =>
  intro o ho
  have hi:=hl i (List.mem_cons_self ..)
  obtain ⟨h1,h2⟩:=tC ho hi.1
  obtain ⟨h3,h4⟩:=tC h1 hi.2
  obtain ⟨h5,h6⟩:=ih (fun j hj=>hl j (List.mem_cons_of_mem _ hj)) h3
  refine ⟨h5,fun y=>?_⟩
  rw [List.foldl_cons,h6,h4,h2]
  constructor
  · rintro (((h | h) | h) | ⟨j,hj,h⟩)
    · exact .inl h
    · exact .inr ⟨i,List.mem_cons_self ..,.inl h⟩
    · exact .inr ⟨i,List.mem_cons_self ..,.inr h⟩
    · exact .inr ⟨j,List.mem_cons_of_mem _ hj,h⟩
  · rintro (h | ⟨j,hj,h⟩)
    · exact .inl (.inl (.inl h))
    · rcases List.mem_cons.1 hj with rfl | hj
      · rcases h with h | h
        · exact .inl (.inl (.inr h))
        · exact .inl (.inr h)
      · exact .inr ⟨j,hj,h⟩
theorem rZ [K:Key] {l:List Iv} (hl:∀ i∈l,Tv i):Ts (o7 l)∧∀ y,y∈o7 l↔∃ i∈l,y=i.lo∨y=i.hi:=by
 obtain ⟨h1,h2⟩:=zA hl (o:=[]) ⟨fun _ h=>(by cases h),List.Pairwise.nil⟩
 exact ⟨h1,fun y=>by rw [o7,h2]; simp⟩
theorem tG {α β R:Type} [Inhabited α] {f:β→α→β} (l:List α) {B:β×Nat→Nx (β×Nat) R} (hgo:∀ o i,i < l.length→B (o,i)=.go (f o (gt l i),i+1)) (hout:∀ o,B (o,l.length)=.out (o,l.length)) :
 ∀ (s p:List α) (o:β) (k:Nat),l=p++s→s.length < k→bZ B k (o,p.length)=.inl (s.foldl f o,l.length)
 | [],p,o,k+1,hl,_=>by
  rw [List.append_nil] at hl
  rw [← hl,jZ k (hout o)]
  rfl
 | x::s,p,o,k+1,hl,hk=>by
  have hg:gt l p.length=x:=by rw [hl]; exact oe rfl
  have h1:=hgo o p.length (by rw [hl]; simp)
  rw [hg] at h1
  have ih:=tG l hgo hout s (p++[x]) (f o x) k (by rw [hl]; simp) (by simp at hk; omega)
  rw [iI k h1,List.foldl_cons,← ih,List.length_append]
  rfl
end Go.Sx
namespace Go.Sx
section
variable {α:Type}
def ptA (z:α) (t:GR):At α:=⟨t,t,false,false,z⟩
def q0 (z:α) (t t':GR):At α:=⟨t,t',true,false,z⟩
def gV (z:α):List GR→List (At α)
 | []=>[]
 | [t]=>[ptA z t]
 | t::t'::r=>ptA z t::q0 z t t'::gV z (t'::r)
def kS (u:U α) (a:At α):At α:=bif aX u.iv a.frm a.til a.gap then ⟨a.frm,a.til,a.gap,true,u.f⟩ else a
def kn (l:List (U α)) (a:At α):At α:=l.foldl (fun a u=>kS u a) a
def je (z:α) (l:List (U α)) (ts:List GR):List (At α):=(gV z ts).map (kn l)
end
theorem gt_set {α:Type} [Inhabited α] {l:List α} {i:Nat} {x:α} (h:i < l.length):gt (l.set i x) i=x:=by
 simp [gt,List.getD,h]
theorem set_gt {α:Type} [Inhabited α] {l:List α} {i:Nat} (h:i < l.length):l.set i (gt l i)=l:=by
 simp [gt,List.getD,List.getElem?_eq_getElem h]
section
variable {α R:Type} [Inhabited (At α)]
omit [Inhabited (At α)] in
theorem qr {z:α} {ts:List GR} {B:List (At α)×Nat→Nx (List (At α)×Nat) R}
 (h1:∀ o i,i+1 < ts.length→B (o,i)=.go ((o++[ptA z (gt ts i)])++[q0 z (gt ts i) (gt ts (i+1))],i+1))
 (h2:∀ o i,i+1=ts.length→B (o,i)=.go (o++[ptA z (gt ts i)],i+1)) (h3:∀ o,B (o,ts.length)=.out (o,ts.length)) :
 ∀ (s p:List GR) (o:List (At α)) (k:Nat),ts=p++s→s.length < k→bZ B k (o,p.length)=.inl (o++gV z s,ts.length)
 | [],p,o,k+1,hl,_=>by
  rw [List.append_nil] at hl
  rw [← hl,jZ k (h3 o),gV,List.append_nil]
 | [t],p,o,k+1,hl,hk=>by
  have e:=h2 o p.length (by rw [hl]; simp)
  have hg:gt ts p.length=t:=by rw [hl]; exact oe rfl
  rw [hg] at e
  have ih:=qr h1 h2 h3 [] (p++[t]) (o++[ptA z t]) k (by rw [hl]; simp) (by simp at hk; omega)
  rw [List.length_append] at ih
  rw [iI k e]
  refine Eq.trans ih ?_
  simp [gV]
 | t::t'::r,p,o,k+1,hl,hk=>by
  have e:=h1 o p.length (by rw [hl]; simp)
  have hg:gt ts p.length=t:=by rw [hl]; exact oe rfl
  have hg':gt ts (p.length+1)=t':=by
   rw [hl,show p++t::t'::r=(p++[t])++t'::r by simp]
   exact oe (by simp)
  rw [hg,hg'] at e
  have ih:=qr h1 h2 h3 (t'::r) (p++[t]) ((o++[ptA z t])++[q0 z t t']) k (by rw [hl]; simp) (by simp at hk ⊢; omega)
  rw [List.length_append] at ih
  rw [iI k e]
  refine Eq.trans ih ?_
  simp [gV]
theorem oo {β γ:Type} [Inhabited γ] {f:β→γ→β} (l:List γ) {B:Nat×β→Nx (Nat×β) R} {I:β→Prop} (hI:∀ o x,I o→I (f o x)) (hgo:∀ o i,I o→i < l.length→B (i,o)=.go (i+1,f o (gt l i))) (hout:∀ o,B (l.length,o)=.out (l.length,o)) :
 ∀ (s p:List γ) (o:β) (k:Nat),I o→l=p++s→s.length < k→bZ B k (p.length,o)=.inl (l.length,s.foldl f o)
 | [],p,o,k+1,_,hl,_=>by
  rw [List.append_nil] at hl
  rw [← hl,jZ k (hout o)]
  rfl
 | x::s,p,o,k+1,hi,hl,hk=>by
  have hg:gt l p.length=x:=by rw [hl]; exact oe rfl
  have h1:=hgo o p.length hi (by rw [hl]; simp)
  rw [hg] at h1
  have ih:=oo l hI hgo hout s (p++[x]) (f o x) k (hI _ _ hi) (by rw [hl]; simp) (by simp at hk; omega)
  rw [iI k h1,List.foldl_cons,← ih,List.length_append]
  rfl
theorem vM (i:Nat):∀ (l:List (U α)) (o:List (At α)),i < o.length→l.foldl (fun o u=>o.set i (kS u (gt o i))) o=o.set i (kn l (gt o i))
 | [],o,h=>(set_gt h).symm
 | u::l,o,h=>by
  rw [List.foldl_cons,vM i l _ (by simpa using h),gt_set h,List.set_set]
  rfl
end
theorem vA {γ R:Type} [Inhabited γ] {g:γ→γ} {n:Nat} {B:Nat×List γ→Nx (Nat×List γ) R} (hgo:∀ o i,i < o.length→o.length=n→B (i,o)=.go (i+1,o.set i (g (gt o i)))) (hout:∀ o,o.length=n→B (n,o)=.out (n,o)) :
 ∀ (s p:List γ) (k:Nat),p.length+s.length=n→s.length < k→bZ B k (p.length,p++s)=.inl (n,p++s.map g)
 | [],p,k+1,hn,_=>by
  rw [List.append_nil]
  simp at hn
  rw [hn,jZ k (hout p hn),List.map_nil,List.append_nil]
 | x::s,p,k+1,hn,hk=>by
  have h1:=hgo (p++x::s) p.length (by simp) (by simpa using hn)
  rw [oe rfl,List.set_append_right _ _ (Nat.le_refl _),Nat.sub_self,List.set_cons_zero] at h1
  have ih:=vA hgo hout s (p++[g x]) k (by simp at hn ⊢; omega) (by simp at hk; omega)
  rw [List.length_append,List.append_assoc] at ih
  rw [iI k h1]
  refine Eq.trans ih ?_
  simp
end Go.Sx
namespace Go.Sx
theorem l8 [K:Key] {i:Iv} {t:GR} (hi:Tv i) (ht:Tm t):aX i t t false=decide (io i≤2*tk t∧(2*tk t:Int)≤kj i):=by
 unfold aX
 rw [cond_false,hi.1.cmp ht,ht.cmp hi.2]
 unfold io kj
 rcases Nat.lt_trichotomy (tk i.lo) (tk t) with h | h | h
 · rw [iV h]
   rcases Nat.lt_trichotomy (tk t) (tk i.hi) with h2 | h2 | h2
   · rw [iV h2]; cases i.openLo <;> cases i.openHi <;> simp <;> omega
   · rw [h2,fP]; cases i.openLo <;> cases i.openHi <;> simp <;> omega
   · rw [i8 h2]; cases i.openLo <;> cases i.openHi <;> simp <;> omega
 · rw [h,fP]
   rcases Nat.lt_trichotomy (tk t) (tk i.hi) with h2 | h2 | h2
   · rw [iV h2]; cases i.openLo <;> cases i.openHi <;> simp <;> omega
   · rw [h2,fP]; cases i.openLo <;> cases i.openHi <;> simp <;> omega
   · rw [i8 h2]; cases i.openLo <;> cases i.openHi <;> simp <;> omega
 · rw [i8 h]
   cases i.openLo <;> cases i.openHi <;> simp <;> omega
theorem mn [K:Key] {i:Iv} {t t':GR} (hi:Tv i) (ht:Tm t) (ht':Tm t'):aX i t t' true=decide (io i≤2*tk t+1∧(2*tk t':Int) - 1≤kj i):=by
 unfold aX
 rw [cond_true,hi.1.cmp ht,ht'.cmp hi.2]
 unfold io kj
 have e1:decide (sgn (tk i.lo) (tk t)≤0)=decide (tk i.lo≤tk t):=by
  rcases Nat.lt_trichotomy (tk i.lo) (tk t) with h | h | h
  · rw [iV h]; simp; omega
  · rw [h,fP]; simp
  · rw [i8 h]; simp; omega
 have e2:decide (sgn (tk t') (tk i.hi)≤0)=decide (tk t'≤tk i.hi):=by
  rcases Nat.lt_trichotomy (tk t') (tk i.hi) with h | h | h
  · rw [iV h]; simp; omega
  · rw [h,fP]; simp
  · rw [i8 h]; simp; omega
 rw [e1,e2,← Bool.decide_and]
 apply decide_eq_decide.2
 cases i.openLo <;> cases i.openHi <;> simp <;> omega
def ptU {α:Type} (t:GR) (f:α):U α:=⟨⟨t,t,false,false⟩,f⟩
def xx {α:Type} (t t':GR) (f:α):U α:=⟨⟨t,t',true,true⟩,f⟩
def atU {α:Type} (u:U α):List (U α) :=
 (bif u.iv.openLo then [] else [ptU u.iv.lo u.f])++(bif aN u.iv then [] else xx u.iv.lo u.iv.hi u.f::(bif u.iv.openHi then [] else [ptU u.iv.hi u.f]))
theorem tF {α β:Type} (g:α→List β):∀ (l:List α) (o:List β),l.foldl (fun o u=>o++g u) o=o++l.flatMap g
 | [],o=>by simp
 | u::l,o=>by rw [List.foldl_cons,tF g l,List.flatMap_cons,List.append_assoc]
end Go.Sx
namespace Go.Sx
theorem pD {β:Type} {k:β→Nat}:∀ {l m:List β},(l.Pairwise fun a b=>k a < k b)→(m.Pairwise fun a b=>k a < k b)→(∀ x,x∈l↔x∈m)→l=m
 | [],[],_,_,_=>rfl
 | [],y::m,_,_,h=>by have:=(h y).2 (List.mem_cons_self ..); cases this
 | x::l,[],_,_,h=>by have:=(h x).1 (List.mem_cons_self ..); cases this
 | x::l,y::m,hl,hm,h=>by
  rw [List.pairwise_cons] at hl hm
  have e:x=y:=by
   rcases List.mem_cons.1 ((h x).1 (List.mem_cons_self ..)) with e | hx
   · exact e
   · rcases List.mem_cons.1 ((h y).2 (List.mem_cons_self ..)) with e | hy
     · exact e.symm
     · have h1:=hm.1 x hx
       have h2:=hl.1 y hy
       omega
  subst e
  refine congrArg (x::·) (pD hl.2 hm.2 fun z=>?_)
  constructor
  · intro hz
    rcases List.mem_cons.1 ((h z).1 (List.mem_cons_of_mem _ hz)) with rfl | hz'
    · exact absurd (hl.1 z hz) (Nat.lt_irrefl _)
    · exact hz'
  · intro hz
    rcases List.mem_cons.1 ((h z).2 (List.mem_cons_of_mem _ hz)) with rfl | hz'
    · exact absurd (hm.1 z hz) (Nat.lt_irrefl _)
    · exact hz'
def Dj [K:Key] (a b:Iv):Prop:=kj a < (io b:Int)∨kj b < (io a:Int)
theorem Dj.symm [K:Key] {a b:Iv} (h:Dj a b):Dj b a:=Or.symm h
theorem yr {β:Type} {R:β→β→Prop} (hs:∀ a b,R a b→R b a):∀ {l:List β},l.Pairwise R→∀ a∈l,∀ b∈l,a=b∨R a b
 | [],_,a,ha,_,_=>by cases ha
 | x::l,hp,a,ha,b,hb=>by
  rw [List.pairwise_cons] at hp
  rcases List.mem_cons.1 ha with e1 | ha2 <;> rcases List.mem_cons.1 hb with e2 | hb2
  · exact .inl (e1.trans e2.symm)
  · rw [e1]; exact .inr (hp.1 b hb2)
  · rw [e2]; exact .inr (hs _ _ (hp.1 a ha2))
  · exact yr hs hp.2 a ha2 b hb2
theorem end_out [K:Key] {v w:Iv} (hv:Wv v) (hw:Wv w) (h:v=w∨Dj v w) {t:GR} (ht:t=w.lo∨t=w.hi):¬ (tk v.lo < tk t∧tk t < tk v.hi):=by
 rintro ⟨h1,h2⟩
 have l1:=hv.le
 have l2:=hw.le
 rcases h with rfl | h
 · rcases ht with rfl | rfl <;> omega
 · unfold Dj at h
   have a1:2*tk v.lo≤io v∧io v≤2*tk v.lo+1:=by unfold io; cases v.openLo <;> simp
   have a2:2*(tk v.hi:Int) - 1≤kj v∧kj v≤2*tk v.hi:=by unfold kj; cases v.openHi <;> simp <;> omega
   have b1:2*tk w.lo≤io w∧io w≤2*tk w.lo+1:=by unfold io; cases w.openLo <;> simp
   have b2:2*(tk w.hi:Int) - 1≤kj w∧kj w≤2*tk w.hi:=by unfold kj; cases w.openHi <;> simp <;> omega
   rcases ht with rfl | rfl <;> rcases h with h | h <;> omega
section
variable {α:Type}
theorem tJ:∀ {l:List (U α)} {a:At α},(∀ v∈l,aX v.iv a.frm a.til a.gap=false)→kn l a=a
 | [],a,_=>rfl
 | u::l,a,h=>by
  have e:kS u a=a:=by unfold kS; rw [h u (List.mem_cons_self ..)]; rfl
  show kn l (kS u a)=a
  rw [e]
  exact tJ fun v hv=>h v (List.mem_cons_of_mem _ hv)
theorem qd {f:α}:∀ {l:List (U α)} {a:At α},(∀ v∈l,aX v.iv a.frm a.til a.gap=true→v.f=f)→(a=⟨a.frm,a.til,a.gap,true,f⟩∨∃ v∈l,aX v.iv a.frm a.til a.gap=true)→kn l a=⟨a.frm,a.til,a.gap,true,f⟩
 | [],a,_,h=>by
  rcases h with h | ⟨v,hv,_⟩
  · exact h
  · cases hv
 | u::l,a,hu,h=>by
  show kn l (kS u a)=_
  cases hb:aX u.iv a.frm a.til a.gap with
  | true =>
   have e:kS u a=⟨a.frm,a.til,a.gap,true,f⟩:=by
    unfold kS
    rw [hb,cond_true,hu u (List.mem_cons_self ..) hb]
   rw [e]
   exact qd (f:=f) (a:=⟨a.frm,a.til,a.gap,true,f⟩) (fun v hv=>hu v (List.mem_cons_of_mem _ hv)) (.inl rfl)
  | false =>
   have e:kS u a=a:=by unfold kS; rw [hb]; rfl
   rw [e]
   refine qd (fun v hv=>hu v (List.mem_cons_of_mem _ hv)) (h.imp id ?_)
   rintro ⟨v,hv,h1⟩
   rcases List.mem_cons.1 hv with rfl | hv
   · rw [hb] at h1; cases h1
   · exact ⟨v,hv,h1⟩
end
end Go.Sx
namespace Go.Sx
section
variable {α:Type}
theorem lc {z:α} {a:At α}:∀ {ts:List GR},a∈gV z ts↔(∃ t∈ts,a=ptA z t)∨∃ t t',(∃ p s,ts=p++t::t'::s)∧a=q0 z t t'
 | []=>by
  constructor
  · intro h; cases h
  · rintro (⟨t,h,_⟩ | ⟨t,t',⟨p,s,h⟩,_⟩)
    · cases h
    · cases p <;> cases h
 | [t]=>by
  constructor
  · intro h
    exact .inl ⟨t,List.mem_cons_self ..,List.mem_singleton.1 h⟩
  · rintro (⟨x,h,e⟩ | ⟨x,t',⟨p,s,h⟩,_⟩)
    · rw [e,List.mem_singleton.1 h]; exact List.mem_cons_self ..
    · have:=congrArg List.length h
      simp at this
      omega
 | t::t'::r=>by
  have ih:=lc (z:=z) (a:=a) (ts:=t'::r)
  constructor
  · intro h
    rcases List.mem_cons.1 h with e | h
    · exact .inl ⟨t,List.mem_cons_self ..,e⟩
    · rcases List.mem_cons.1 h with e | h
      · exact .inr ⟨t,t',⟨[],r,rfl⟩,e⟩
      · rcases ih.1 h with ⟨x,hx,e⟩ | ⟨x,y,⟨p,s,hs⟩,e⟩
        · exact .inl ⟨x,List.mem_cons_of_mem _ hx,e⟩
        · exact .inr ⟨x,y,⟨t::p,s,by rw [hs]; rfl⟩,e⟩
  · rintro (⟨x,hx,e⟩ | ⟨x,y,⟨p,s,hs⟩,e⟩)
    · rcases List.mem_cons.1 hx with rfl | hx
      · rw [e]; exact List.mem_cons_self ..
      · exact List.mem_cons_of_mem _ (List.mem_cons_of_mem _ (ih.2 (.inl ⟨x,hx,e⟩)))
    · cases p with
      | nil =>
       rw [List.nil_append,List.cons.injEq,List.cons.injEq] at hs
       rw [e,← hs.1,← hs.2.1]
       exact List.mem_cons_of_mem _ (List.mem_cons_self ..)
      | cons q p =>
       rw [List.cons_append,List.cons.injEq] at hs
       exact List.mem_cons_of_mem _ (List.mem_cons_of_mem _ (ih.2 (.inr ⟨x,y,⟨p,s,hs.2⟩,e⟩)))
end
theorem rM [K:Key] {ts:List GR} (h:Ts ts) {t t':GR}:(∃ p s,ts=p++t::t'::s)↔t∈ts∧t'∈ts∧tk t < tk t'∧∀ x∈ts,¬ (tk t < tk x∧tk x < tk t'):=by
 constructor
 · rintro ⟨p,s,rfl⟩
   have hp:=h.2
   rw [List.pairwise_append,List.pairwise_cons,List.pairwise_cons] at hp
   refine ⟨by simp,by simp,hp.2.1.1 t' (List.mem_cons_self ..),fun x hx=>?_⟩
   rcases List.mem_append.1 hx with hx | hx
   · have:=hp.2.2 x hx t (List.mem_cons_self ..); omega
   · rcases List.mem_cons.1 hx with rfl | hx
     · omega
     · rcases List.mem_cons.1 hx with rfl | hx
       · omega
       · have:=hp.2.1.2.1 x hx; omega
 · rintro ⟨h1,h2,h3,h4⟩
   obtain ⟨p,s,rfl⟩:=List.append_of_mem h1
   have hp:=h.2
   rw [List.pairwise_append,List.pairwise_cons] at hp
   have h5:t'∈s:=by
    rcases List.mem_append.1 h2 with h2 | h2
    · have:=hp.2.2 t' h2 t (List.mem_cons_self ..); omega
    · rcases List.mem_cons.1 h2 with rfl | h2
      · omega
      · exact h2
   cases s with
   | nil=>cases h5
   | cons x s =>
    refine ⟨p,s,?_⟩
    rcases List.mem_cons.1 h5 with rfl | h6
    · rfl
    · rw [List.pairwise_cons] at hp
      have e1:=hp.2.1.1 x (List.mem_cons_self ..)
      have e2:=hp.2.1.2.1 t' h6
      exact absurd ⟨e1,e2⟩ (h4 x (by simp))
section
variable {α:Type}
def plA [K:Key] (a:At α):Nat:=2*tk a.frm+(bif a.gap then 1 else 0)
theorem qq [K:Key] {z:α}:∀ {ts:List GR},(ts.Pairwise fun x y=>tk x < tk y)→(gV z ts).Pairwise (fun a b=>plA a < plA b)∧∀ a∈gV z ts,∀ t∈ts.head?,2*tk t≤plA a
 | [],_=>⟨.nil,fun a h=>by cases h⟩
 | [t],_=>⟨List.pairwise_singleton _ _,fun a h x hx=>by
  rw [List.mem_singleton.1 h]
  cases hx
  simp [plA,ptA]⟩
 | t::t'::r,hp=>by
  rw [List.pairwise_cons] at hp
  obtain ⟨i1,i2⟩:=qq (z:=z) hp.2
  have h0:=hp.1 t' (List.mem_cons_self ..)
  have i3:∀ a∈gV z (t'::r),2*tk t'≤plA a:=fun a ha=>i2 a ha t' rfl
  constructor
  · show (ptA z t::q0 z t t'::gV z (t'::r)).Pairwise _
    rw [List.pairwise_cons,List.pairwise_cons]
    refine ⟨fun a ha=>?_,fun a ha=>?_,i1⟩
    · rcases List.mem_cons.1 ha with rfl | ha
      · simp [plA,ptA,q0]
      · have:=i3 a ha
        simp [plA,ptA] at this ⊢
        omega
    · have:=i3 a ha
      simp [plA,q0] at this ⊢
      omega
  · intro a ha x hx
    cases hx
    rcases List.mem_cons.1 ha with rfl | ha
    · simp [plA,ptA]
    · rcases List.mem_cons.1 ha with rfl | ha
      · simp [plA,q0]
      · have:=i3 a ha
        omega
end
end Go.Sx
namespace Go.Sx
theorem fst_b [K:Key] (i:Iv):2*tk i.lo≤io i∧io i≤2*tk i.lo+1:=by unfold io; cases i.openLo <;> simp
theorem yM [K:Key] (i:Iv):2*(tk i.hi:Int) - 1≤kj i∧kj i≤2*tk i.hi:=by unfold kj; cases i.openHi <;> simp <;> omega
section
variable {α:Type}
def toU (a:At α):U α:=⟨⟨a.frm,a.til,a.gap,a.gap⟩,a.f⟩
theorem rP {u w:U α}:w∈atU u↔(u.iv.openLo=false∧w=ptU u.iv.lo u.f)∨(aN u.iv=false∧w=xx u.iv.lo u.iv.hi u.f)∨(aN u.iv=false∧u.iv.openHi=false∧w=ptU u.iv.hi u.f):=by
 unfold atU
 cases u.iv.openLo <;> cases aN u.iv <;> cases u.iv.openHi <;> simp
theorem yV [K:Key] {u:List (U α)} (hW:∀ x∈u,Wv x.iv) (hD:u.Pairwise fun a b=>Dj a.iv b.iv) {a:At α} (ha:Tm a.frm∧Tm a.til∧(a.gap=false→a.til=a.frm)∧(a.gap=true→tk a.frm < tk a.til))
 {v w:U α} (hv:v∈u) (hw:w∈u) (h1:aX v.iv a.frm a.til a.gap=true) (h2:aX w.iv a.frm a.til a.gap=true):v=w:=by
 rcases yr (fun a b h=>Dj.symm h) hD v hv w hw with e | h
 · exact e
 · exfalso
   unfold Dj at h
   cases hg:a.gap with
   | false =>
    rw [hg,ha.2.2.1 hg,l8 (hW v hv).1 ha.1,decide_eq_true_eq] at h1
    rw [hg,ha.2.2.1 hg,l8 (hW w hw).1 ha.1,decide_eq_true_eq] at h2
    omega
   | true =>
    have hlt:=ha.2.2.2 hg
    rw [hg,mn (hW v hv).1 ha.1 ha.2.1,decide_eq_true_eq] at h1
    rw [hg,mn (hW w hw).1 ha.1 ha.2.1,decide_eq_true_eq] at h2
    omega
theorem rW [K:Key] {u:List (U α)} (hW:∀ x∈u,Wv x.iv) (hD:u.Pairwise fun a b=>Dj a.iv b.iv) {a:At α} (ha:Tm a.frm∧Tm a.til∧(a.gap=false→a.til=a.frm)∧(a.gap=true→tk a.frm < tk a.til))
 {v:U α} (hv:v∈u) (h1:aX v.iv a.frm a.til a.gap=true):kn u a=⟨a.frm,a.til,a.gap,true,v.f⟩ :=
 qd (fun w hw h2=>by rw [yV hW hD ha hv hw h1 h2]) (.inr ⟨v,hv,h1⟩)
theorem vN {u:List (U α)} {a:At α} (ha:a.has=false) (h:(kn u a).has=true):∃ v∈u,aX v.iv a.frm a.til a.gap=true:=by
 by_cases hx:∃ v∈u,aX v.iv a.frm a.til a.gap=true
 · exact hx
 · rw [tJ (fun v hv=>by
    cases hb:aX v.iv a.frm a.til a.gap with
    | false=>rfl
    | true=>exact absurd ⟨v,hv,hb⟩ hx)] at h
   rw [ha] at h; cases h
theorem yH [K:Key] {z:α} {u:List (U α)} (hW:∀ x∈u,Wv x.iv) (hD:u.Pairwise fun a b=>Dj a.iv b.iv) {E:List GR} (hE:Ts E) (hm:∀ y,y∈E↔∃ i∈u.map (·.iv),y=i.lo∨y=i.hi) {w:U α} :
 w∈((je z u E).filter (·.has)).map toU↔∃ v∈u,w∈atU v:=by
 have hend:∀ v∈u,∀ t∈E,¬ (tk v.iv.lo < tk t∧tk t < tk v.iv.hi):=fun v hv t ht=>by
  obtain ⟨i,hi,ht⟩:=(hm t).1 ht
  obtain ⟨x,hx,rfl⟩:=List.mem_map.1 hi
  exact end_out (hW v hv) (hW x hx) ((yr (fun a b h=>Dj.symm h) hD v hv x hx).imp (fun e=>by rw [e]) id) ht
 have hlo:∀ v∈u,v.iv.lo∈E:=fun v hv=>(hm _).2 ⟨_,List.mem_map_of_mem hv,.inl rfl⟩
 have hhi:∀ v∈u,v.iv.hi∈E:=fun v hv=>(hm _).2 ⟨_,List.mem_map_of_mem hv,.inr rfl⟩
 have okP:∀ t∈E,Tm (ptA z t).frm∧Tm (ptA z t).til∧((ptA z t).gap=false→(ptA z t).til=(ptA z t).frm)∧((ptA z t).gap=true→tk (ptA z t).frm < tk (ptA z t).til):=fun t ht=>⟨hE.1 t ht,hE.1 t ht,fun _=>rfl,fun h=>(by cases h)⟩
 have okG:∀ t∈E,∀ t'∈E,tk t < tk t'→Tm (q0 z t t').frm∧Tm (q0 z t t').til∧((q0 z t t').gap=false→(q0 z t t').til=(q0 z t t').frm)∧((q0 z t t').gap=true→tk (q0 z t t').frm < tk (q0 z t t').til):=fun t ht t' ht' h=>⟨hE.1 t ht,hE.1 t' ht',fun h=>(by cases h),fun _=>h⟩
 constructor
 · intro h
   obtain ⟨b,hb,rfl⟩:=List.mem_map.1 h
   obtain ⟨hb,hhas⟩:=List.mem_filter.1 hb
   obtain ⟨a,ha,rfl⟩:=List.mem_map.1 hb
   rcases lc.1 ha with ⟨t,ht,rfl⟩ | ⟨t,t',hn,rfl⟩
   · obtain ⟨v,hv,hin⟩:=vN rfl hhas
     rw [rW hW hD (okP t ht) hv hin]
     have hin':=hin
     rw [show aX v.iv (ptA z t).frm (ptA z t).til (ptA z t).gap=aX v.iv t t false from rfl,l8 (hW v hv).1 (hE.1 t ht),decide_eq_true_eq] at hin'
     refine ⟨v,hv,rP.2 ?_⟩
     have hs:=hend v hv t ht
     have hwv:=hW v hv
     rw [j0 hwv.1]
     have fb:=fst_b v.iv
     have lb:=yM v.iv
     by_cases e:tk v.iv.lo=tk t
     · have e2:=(hwv.1.1.inj (hE.1 t ht)).1 e
       refine .inl ⟨?_,by rw [e2]; rfl⟩
       cases ho:v.iv.openLo with
       | false=>rfl
       | true=>unfold io kj at hin'; rw [ho] at hin'; simp at hin'; omega
     · have e3:tk v.iv.hi=tk t:=by omega
       have e2:=(hwv.1.2.inj (hE.1 t ht)).1 e3
       refine .inr (.inr ⟨decide_eq_false (by omega),?_,by rw [e2]; rfl⟩)
       cases ho:v.iv.openHi with
       | false=>rfl
       | true=>unfold io kj at hin'; rw [ho] at hin'; simp at hin'; omega
   · obtain ⟨ht,ht',hlt,hbt⟩:=(rM hE).1 hn
     obtain ⟨v,hv,hin⟩:=vN rfl hhas
     rw [rW hW hD (okG t ht t' ht' hlt) hv hin]
     have hin':=hin
     rw [show aX v.iv (q0 z t t').frm (q0 z t t').til (q0 z t t').gap=aX v.iv t t' true from rfl,mn (hW v hv).1 (hE.1 t ht) (hE.1 t' ht'),decide_eq_true_eq] at hin'
     refine ⟨v,hv,rP.2 ?_⟩
     have hwv:=hW v hv
     have hs:=hend v hv t ht
     have hs':=hend v hv t' ht'
     have fb:=fst_b v.iv
     have lb:=yM v.iv
     have e1:tk v.iv.lo=tk t:=by omega
     have e2:tk v.iv.hi=tk t':=by omega
     rw [j0 hwv.1]
     refine .inr (.inl ⟨decide_eq_false (by omega),?_⟩)
     rw [(hwv.1.1.inj (hE.1 t ht)).1 e1,(hwv.1.2.inj (hE.1 t' ht')).1 e2]
     rfl
 · rintro ⟨v,hv,hw⟩
   have hwv:=hW v hv
   have hle:=hwv.le
   rw [rP,j0 hwv.1] at hw
   have fin:∀ a:At α,a∈gV z E→(Tm a.frm∧Tm a.til∧(a.gap=false→a.til=a.frm)∧(a.gap=true→tk a.frm < tk a.til))→aX v.iv a.frm a.til a.gap=true→(⟨⟨a.frm,a.til,a.gap,a.gap⟩,v.f⟩:U α)∈((je z u E).filter (·.has)).map toU:=fun a h1 h2 h3=>by
    refine List.mem_map.2 ⟨kn u a,List.mem_filter.2 ⟨List.mem_map_of_mem h1,?_⟩,?_⟩
    · rw [rW hW hD h2 hv h3]
    · rw [rW hW hD h2 hv h3]; rfl
   rcases hw with ⟨ho,rfl⟩ | ⟨hi,rfl⟩ | ⟨hi,ho,rfl⟩
   · refine fin (ptA z v.iv.lo) (lc.2 (.inl ⟨_,hlo v hv,rfl⟩)) (okP _ (hlo v hv)) ?_
     show aX v.iv v.iv.lo v.iv.lo false=true
     rw [l8 hwv.1 hwv.1.1,decide_eq_true_eq]
     unfold io at hle ⊢
     rw [ho] at hle ⊢
     simp at hle ⊢
     exact hle
   · have hne:=of_decide_eq_false hi
     have hlt:tk v.iv.lo < tk v.iv.hi:=by have:=hwv.2.1; omega
     refine fin (q0 z v.iv.lo v.iv.hi) (lc.2 (.inr ⟨_,_,(rM hE).2 ⟨hlo v hv,hhi v hv,hlt,fun x hx=>hend v hv x hx⟩,rfl⟩)) (okG _ (hlo v hv) _ (hhi v hv) hlt) ?_
     show aX v.iv v.iv.lo v.iv.hi true=true
     rw [mn hwv.1 hwv.1.1 hwv.1.2,decide_eq_true_eq]
     unfold io kj
     cases v.iv.openLo <;> cases v.iv.openHi <;> simp <;> omega
   · refine fin (ptA z v.iv.hi) (lc.2 (.inl ⟨_,hhi v hv,rfl⟩)) (okP _ (hhi v hv)) ?_
     show aX v.iv v.iv.hi v.iv.hi false=true
     rw [l8 hwv.1 hwv.1.2,decide_eq_true_eq]
     unfold kj at hle ⊢
     rw [ho] at hle ⊢
     simp at hle ⊢
     omega
end
end Go.Sx
