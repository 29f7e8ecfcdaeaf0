/- A part of the proof of movingpointBoxes. -/
import Derived.Test.YtpfdaoajcnophaaGreatDoorL7
import Derived.Test.YtpfdaoajcnophaaGreatDoorK1
import Derived.Shelf.Strings.Repeat
import Derived.Test.YtpfdaoajcnophaaGreatDoorProg
import Derived.Test.YtpfdaoajcnophaaGreatDoorL6
set_option linter.unusedVariables false
set_option linter.unusedSimpArgs false
open Go.Proofs.Tryz renaming runUnderlying9 → uu9, underlying339 → nn339, underlying5 → nn5, underlying9 → nn9, isAgg5 → aa5, sizeOf5 → zz5, zeroValue5 → vv5
namespace Go.Sx
open Go Go.RowKit Go.Proofs
set_option maxRecDepth 100000
set_option maxHeartbeats 40000000
attribute [local irreducible] Code.wp wpList Rd Step ObS Ent
attribute [local irreducible] ao aL ah au ax bN
def bC (a:Nat):Nat:=isq a
def zs (c:Nat):ByteArray:=⟨(Lib.repeatL (ByteArray.data ⟨#[0]⟩).toList c).toArray⟩
theorem xe (w0:World):Calls Tryz.prog 324 #[(.string ⟨#[0]⟩),(.int .i64 ((0:Nat):Int))] w0 (dE w0 (.string (zs 0)) True):=by
 refine enter (N:=125) (args:=[(.string ⟨#[0]⟩),(.int .i64 0)]) Tryz.func324 rfl rfl ?_; intro ac h
 refine gz h <| (W) ?_; clear h ac; intro ac wo h
 refine c_ifT h rfl ?_ rfl
 refine gz h <| (W) ?_; clear h ac wo; intro ac wo h
 exact (rt h) (h.retP rfl trivial)
theorem kZ (a:Nat) (za:SzB 30 a) (hrep:∀ w0,Calls Tryz.prog 324 #[(.string ⟨#[0]⟩),(.int .i64 ((rexp a / 8:Nat):Int))] w0 (dE w0 (.string (zs (rexp a / 8))) True)) (w0:World) :Calls Tryz.prog 287 #[(.string (bs a))] w0 (dE w0 (.string (bs (bC a))) (SzB 29 (bC a))):=by
 refine enter (N:=50) (args:=[(.string (bs a))]) Tryz.func287 rfl rfl ?_; intro ac h
 haveI:On:=⟨trivial⟩
 refine gz h <| (ai) ?_ ?_ <;> clear h ac <;> intro ac wo h hc1
 ·
   have hd1:=of_decide_eq_true hc1
   have hd:bC a=0:=by rw [hd1]; unfold bC isq; rfl
   refine gz h <| (W) ?_; clear h ac wo; intro ac wo h
   exact (rt h) (h.retP (by rw [hd] <;> rfl) (by rw [hd]; exact (cX 0 (by decide) og)))
 ·
   have h0:0 < a:=by have:=of_decide_eq_false hc1; omega
   have hll:=ug h0
   have hlz:(le a).length≤65536:=by unfold SzB at za; omega
   obtain ⟨t1,t2,t3,_⟩:=oR h0
   have hn:nbit a=8*((le a).length - 1)+Lib.bitLen (nB a):=rfl
   have hm:rexp a=(nbit a+1) / 2:=rfl
   have hn3:nbit a≤524296:=by omega
   refine gz h <| (xo (hs:=by exact ie uu9 rfl)) <| (xo (hs:=by exact gJ rfl rfl (r:=(((le a).length - 1:Nat):Int)) (by rw [em,IntKind.wrap_i64]; omega))) <| (xo (hs:=by exact ng rfl rfl (r:=((8*((le a).length - 1):Nat):Int)) (by rw [IntKind.wrap_i64]; omega))) <| (xo (hs:=by exact u6 uu9 rfl rfl (by omega))) <| (xk (Len8_ct (nB a) og)) <| (xo (hs:=by exact sr rfl rfl (r:=((rexp a:Nat):Int)) (by decide) (by rw [hm,hn,Int.tdiv_eq_ediv_of_nonneg (by omega),IntKind.wrap_i64]; omega))) <| (W) ?_; clear h ac wo; intro ac wo h
   obtain ⟨m,hme⟩:∃ m,rexp a=m:=⟨_,rfl⟩
   have hm2:m≤262144:=by omega
   rw [hme] at h hrep
   replace h:St w0 50 [(0,.string (bs a)),(3,iN m)] [] ac wo:=h.re []
   have hpw:2 ^ (m % 8) < 256:=by
    have:2 ^ (m % 8)≤2 ^ 7:=Nat.pow_le_pow_right (by decide) (by omega)
    omega
   have hp0:0 < 2 ^ (m % 8):=Nat.pow_pos (by decide)
   obtain ⟨u,hu,hub⟩:∃ u:UInt8,u.toNat=2 ^ (m % 8)∧(⟨[u].toArray⟩:ByteArray)=bs (2 ^ (m % 8)):=⟨UInt8.ofNat (2 ^ (m % 8)),by rw [UInt8.toNat_ofNat']; omega,bs_one hp0 hpw⟩
   replace h:=h.emps 1
   refine eZ mixed [dv _,dv (.int .i64 ((m % 8:Nat):Int)),dv (.int .u8 ((u.toNat:Nat):Int)),⟨.nd (.one 3 fun v=>NN v 1),[0]⟩,dw (.string ⟨[u].toArray⟩) [0],dv _,dv (.int .i64 ((m / 8:Nat):Int)),dv (.string (zs (m / 8))),dv (.string (bs (2 ^ m))),dv (.string (bs (2 ^ m)))]
    [⟨.emp,[(3,.one 3 fun v=>.row (α:=UInt8) 5 v [u])]⟩] h rfl (by kernel_rfl)
    ⟨oA obA,oA fun _=>aQ (tT rfl rfl (r:=((m % 8:Nat):Int)) (by decide) (by rw [Int.tmod_eq_emod_of_nonneg (by omega)]; rfl)),oA fun _=>aQ (so rfl rfl (r:=((u.toNat:Nat):Int)) (by omega) (by show ((m % 8:Nat):Int)≤8; omega) (by
     rw [Int.toNat_natCast,Int.one_mul,hu]
     have e9:((2:Int) ^ (m % 8))=((2 ^ (m % 8):Nat):Int):=by push_cast; rfl
     rw [e9]
     generalize 2 ^ (m % 8)=q at *
     rw [IntKind.wrap_u8]; omega)),
     fun _ _=>oB (ψ:=fun v=>NN v 1) (B:=fun v=>[.row (α:=UInt8) 5 v [u]]) [.emp] rfl (fun v _=>by simp only [dg,bA] <;> rfl) (fun v hv=>by simpa [DF.one,bA] using hv) (jX (dG (α:=UInt8) (xs:=[.tmp 24]) (vs:=[(.int .u8 ((u.toNat:Nat):Int))]) [u] slt335 rfl rfl rfl (by decide))),
     fun ξ _=>iy [.row (α:=UInt8) 5 (ξ 3) [u]] rfl rfl (r_str nn339 nn5 nn9 rfl),oA obA,oA fun _=>aQ (sr rfl rfl (r:=((m / 8:Nat):Int)) (by decide) (by rw [Int.tdiv_eq_ediv_of_nonneg (by omega),IntKind.wrap_i64]; omega)),oA fun _=>fD (dZ Tryz.call324 rfl hrep),oA fun _=>aQ (r_catS rfl rfl (by have e8:=Lib.repeatL_length [(0:UInt8)] (m / 8); show [u].toArray.size+(Lib.repeatL [(0:UInt8)] (m / 8)).toArray.size≤_; rw [List.size_toArray,List.size_toArray,e8]; simp; omega) (by rw [hub]; exact (bs_pow m).symm)),oA obA,trivial⟩ ?_
   clear h ac wo; intro ξ ac wo hφ h
   replace h:St w0 50 [(0,.string (bs a)),(4,.string (bs (2 ^ m)))] [] ac wo:=(h.pick [] (by decide)).sub ⟨rfl,rfl,trivial⟩
   clear hφ ξ
   have hst:isq a≤2 ^ m:=by rw [← hme]; exact wz h0
   have zst:SzB 29 (2 ^ m):=by unfold SzB; rw [le_pow]; omega
   have hs0:=isq_pos h0
   refine gz h <| (W) ?_; clear h ac wo; intro ac wo h
   refine wp_loop_ghost (fun n_ a_ w_=>∃ (x:Nat),(x < n_)∧(isq a≤x)∧(SzB 29 x)∧St w0 50 [(0,(.string (bs a))),(4,(.string (bs x)))] [] a_ w_) (2 ^ m+1) ⟨2 ^ m,by omega,hst,zst,h.rs⟩ ?_
   clear h ac wo; rintro n1 ac wo ⟨x,hm1,hx,zx,h⟩
   obtain ⟨m1,rfl⟩:∃ m,n1=m+1:=⟨n1 - 1,by omega⟩
   have c2:=iU a x 29 og (SzB_le za og) zx (by omega)
   have s2:=ap (c2 w0)
   have c3:=gW x ((bF a x).1) 28 og zx s2.1
   have s3:=ap (c3 w0)
   have c4:=iU (cZ x ((bF a x).1)) 2 28 og s3 (cX 2 (by decide) og) og
   have e4:(bF (cZ x ((bF a x).1)) 2).1=nwt a x:=rfl
   rw [e4] at c4
   refine gz h <| (xk c2) <| (xk c3) <| (xk c4) <| (xk (eF (nwt a x) x)) <| (ai) ?_ ?_ <;> clear h ac wo <;> intro ac wo h hc2
   ·
     have hle:=tu hc2
     have hd:bC a=x:=(nwt_stop hx hle).symm
     refine gz h <| (W) ?_; clear h ac wo; intro ac wo h
     exact (rt h) (h.retP (by rw [hd] <;> rfl) (by rw [hd]; exact zx))
   ·
     have hle:=tj hc2
     have hlt:nwt a x < x:=by
      refine Nat.lt_of_le_of_ne hle fun e=>?_
      rw [e] at hc2
      have:bk x x=0:=by rw [uw,if_neg (Nat.lt_irrefl _),if_neg (Nat.lt_irrefl _)]
      rw [this] at hc2; cases hc2
     refine gz h <| (W) ?_; clear h ac wo; intro ac wo h
     exact aO ⟨m1,by omega,nwt a x,by omega,nwt_ge (by omega),gH zx hle,h.re []⟩
attribute [irreducible] bC
theorem rexp4 {a:Nat} (h:a < 4):rexp a / 8=0:=by
 have:a=0∨a=1∨a=2∨a=3:=by omega
 rcases this with rfl | rfl | rfl | rfl <;> decide +kernel
theorem root4_ct (a:Nat) (ha:a < 4) (za:SzB 30 a) (w0:World):Calls Tryz.prog 287 #[(.string (bs a))] w0 (dE w0 (.string (bs (bC a))) (SzB 29 (bC a))) :=
 kZ a za (by rw [rexp4 ha]; exact xe) w0
end Go.Sx
namespace Go.Sx
open Go
def rsw {α:Type}:Result α→World
 | .ok _ w=>w
 | .halt _ w=>w
theorem kD {α:Type} {p:Program}:∀ (s:Sem α) (w:World),w.drawn≤(rsw (s.run p w)).drawn
 | .pure b,w=>Nat.le_refl _
 | .load m ad k,w=>by
  unfold Sem.run
  split
  · exact kD _ _
  · split
    · exact kD _ _
    · exact Nat.le_refl _
 | .store m ad v k,w=>by
  have key:∀ v':Value,w.drawn≤(rsw (match w.cell? ad with
   | some _ => if w.frozen? ad then (Result.halt (.unsupported (.unsafePointer "a write to bytes that a string shares")) w : Result α) else k.run p (w.setCell ad v')
   | none=>match w.farStore p ad v' (m == .atomic) with
    | .ok (w,_)=>k.run p w
    | .error h=>.halt h w)).drawn:=fun v'=>by
   split
   · split
     · exact Nat.le_refl _
     · exact kD k (w.setCell ad v')
   · split
     · rename_i w2 l hf
       exact Nat.le_trans (Nat.le_of_eq (jT hf).symm) (kD k w2)
     · exact Nat.le_refl _
  cases v <;> first | exact key _ | exact Nat.le_refl w.drawn
 | .new o k,w=>by
  unfold Sem.run
  exact kD (k w.heap.size) { w with heap:=w.heap.push o }
 | .shape r k,w=>by
  unfold Sem.run
  exact kD _ _
 | .freeze ad n k,w=>by
  unfold Sem.run
  have h1:=kD (p:=p) k (w.freeze ad n)
  have h2:(w.freeze ad n).drawn=w.drawn:=by unfold World.freeze; split <;> rfl
  omega
 | .frozen ad k,w=>by
  unfold Sem.run
  exact kD _ _
 | .getObj r k,w=>by
  unfold Sem.run
  split
  · exact Nat.le_refl _
  · exact kD _ _
  · exact Nat.le_refl _
 | .setObj r o k,w=>by
  unfold Sem.run
  split
  · exact Nat.le_refl _
  · exact kD k { w with heap:=w.heap.setIfInBounds r o }
  · exact Nat.le_refl _
 | .choose q k,w=>by
  unfold Sem.run
  split
  · exact kD _ _
  · exact Nat.le_trans (Nat.le_succ _) (kD (k _) { w with drawn:=w.drawn+1 })
 | .sys c k,w=>by
  unfold Sem.run
  exact Nat.le_trans (oV w c) (kD _ _)
 | .program k,w=>by
  unfold Sem.run
  exact kD _ _
 | .mark m k,w=>by
  unfold Sem.run
  exact kD _ _
 | .halt hl,w=>Nat.le_refl _
theorem gp {α:Type} {p:Program}:∀ (s:Sem α) (w:World) (es:Array Event),w.drawn≤(rsw (s.runT p w es).1).drawn
 | .pure b,w,es=>Nat.le_refl _
 | .load m ad k,w,es=>by
  unfold Sem.runT
  split
  · exact gp _ _ _
  · split
    · exact gp _ _ _
    · exact Nat.le_refl _
 | .store m ad v k,w,es=>by
  have key:∀ v':Value,w.drawn≤(rsw ((match w.cell? ad with
   | some _ => if w.frozen? ad then ((Result.halt (.unsupported (.unsafePointer "a write to bytes that a string shares")) w : Result α), es) else k.runT p (w.setCell ad v') (es.push ⟨.cell ad, true, m == .atomic⟩)
   | none=>match w.farStore p ad v' (m == .atomic) with
    | .ok (w,touched)=>k.runT p w (es++touched.toArray.map (⟨.cell ·,true,m == .atomic⟩))
    | .error h=>(.halt h w,es):Result α×Array Event)).1).drawn:=fun v'=>by
   split
   · split
     · exact Nat.le_refl _
     · exact gp k (w.setCell ad v') _
   · split
     · rename_i w2 l hf
       exact Nat.le_trans (Nat.le_of_eq (jT hf).symm) (gp k w2 _)
     · exact Nat.le_refl _
  cases v <;> first | exact key _ | exact Nat.le_refl w.drawn
 | .new o k,w,es=>by
  unfold Sem.runT
  exact gp (k w.heap.size) { w with heap:=w.heap.push o } es
 | .shape r k,w,es=>by
  unfold Sem.runT
  exact gp _ _ _
 | .freeze ad n k,w,es=>by
  unfold Sem.runT
  have h1:=gp (p:=p) k (w.freeze ad n) es
  have h2:(w.freeze ad n).drawn=w.drawn:=by unfold World.freeze; split <;> rfl
  omega
 | .frozen ad k,w,es=>by
  unfold Sem.runT
  exact gp _ _ _
 | .getObj r k,w,es=>by
  unfold Sem.runT
  split
  · exact Nat.le_refl _
  · exact gp _ _ _
  · exact Nat.le_refl _
 | .setObj r o k,w,es=>by
  unfold Sem.runT
  split
  · exact Nat.le_refl _
  · exact gp k { w with heap:=w.heap.setIfInBounds r o } _
  · exact Nat.le_refl _
 | .choose q k,w,es=>by
  unfold Sem.runT
  split
  · exact gp _ _ _
  · exact Nat.le_trans (Nat.le_succ _) (gp (k _) { w with drawn:=w.drawn+1 } _)
 | .sys c k,w,es=>by
  unfold Sem.runT
  exact Nat.le_trans (oV w c) (gp _ _ _)
 | .program k,w,es=>by
  unfold Sem.runT
  exact gp _ _ _
 | .mark m k,w,es=>by
  unfold Sem.runT
  exact gp _ _ _
 | .halt hl,w,es=>Nat.le_refl _
theorem jY {α:Type} {p:Program} {s:Sem α} {w w':World} {a:α} (h:s.run p w=.ok a w'):w.drawn≤w'.drawn:=by have:=kD (p:=p) s w; rw [h] at this; exact this
theorem run_h {α:Type} {p:Program} {s:Sem α} {w w':World} {a:Halt} (h:s.run p w=.halt a w'):w.drawn≤w'.drawn:=by have:=kD (p:=p) s w; rw [h] at this; exact this
def GG (d:Nat):GStep→Prop
 | .go _ w _ | .comm _ _ _ _ w _ | .spawn _ _ w _ | .count _ w _ | .timer _ _ w _ | .alone _ _ w _ | .newcoro _ _ _ w _ | .coroswitch _ _ _ w _ | .collect _ w _ | .watch _ w _=>d≤w.drawn
 | .ended ..=>True
theorem GG.after {d:Nat} {es:Array Event} {s:GStep} (h:GG d s):GG d (s.after es):=by cases s <;> exact h
def SG (d:Nat):Stepped→Prop
 | .next m=>d≤m.world.drawn
 | .ended ..=>True
def MG (d:Nat):Move→Prop
 | .goroutine m _=>d≤m.world.drawn
 | .machine s _=>SG d s
theorem runT_k {α:Type} {p:Program} {s:Sem α} {w w':World} {a:α} {es es':Array Event} (h:s.runT p w es=(.ok a w',es')):w.drawn≤w'.drawn:=by have:=gp (p:=p) s w es; rw [h] at this; exact this
theorem runT_h {α:Type} {p:Program} {s:Sem α} {w w':World} {a:Halt} {es es':Array Event} (h:s.runT p w es=(.halt a w',es')):w.drawn≤w'.drawn:=by have:=gp (p:=p) s w es; rw [h] at this; exact this
theorem o9 {α:Type} {p:Program} {s:Sem α} {w w':World} {a:α} {es:Array Event} (h:(s.runT p w es).1=.ok a w'):w.drawn≤w'.drawn:=by have:=gp (p:=p) s w es; rw [h] at this; exact this
theorem runT_h1 {α:Type} {p:Program} {s:Sem α} {w w':World} {a:Halt} {es:Array Event} (h:(s.runT p w es).1=.halt a w'):w.drawn≤w'.drawn:=by have:=gp (p:=p) s w es; rw [h] at this; exact this
section
variable {d:Nat} {w:World}
theorem z8 (w:World) (fd:Nat) (t:ByteArray) (o:Outcome):GG d (endWith w fd t o):=by
 unfold endWith
 simp only
 repeat' split
 all_goals trivial
theorem ns {fr:Frame} {m:String} (h:d≤w.drawn):GG d (endThrow fr m w):=h
theorem mR {p:Program} {fr:Frame} {v:Value} (h:d≤w.drawn):GG d (endPrinting p fr v w):=by
 unfold endPrinting
 simp only
 split
 · exact h
 · trivial
theorem qJ {p:Program} {fr:Frame} {cs:List Frame} {dy:Option Dying} {m:String} (h:d≤w.drawn):GG d (endFatal p fr cs dy m w):=by
 unfold endFatal
 simp only
 split
 · rename_i hq; exact Nat.le_trans h (jY hq)
 · trivial
 · trivial
theorem xj {p:Program} {fr:Frame} {dy:Dying} {f:Fatal} (h:d≤w.drawn):GG d (writeOn p fr dy f w):=by
 unfold writeOn
 simp only
 split
 · trivial
 · split
   · rename_i hq; exact Nat.le_trans h (runT_k hq)
   · rename_i hq; exact Nat.le_trans h (runT_h hq)
   · trivial
   · trivial
theorem die_d {p:Program} {fr:Frame} {dy:Dying} (h:d≤w.drawn):GG d (die p fr dy w):=by
 unfold die
 simp only
 split
 · exact xj h
 · split
   · split
     · exact h
     · exact z8 _ _ _ _
   · split
     · exact h
     · split
       · rename_i hq; exact Nat.le_trans h (jY hq)
       · trivial
     · refine GG.after ?_
       rename_i t recv name _
       have k:=gp (p:=p) (invoke (.fn (.method name) #[]) #[.iface t recv]) w #[]
       generalize ((invoke (.fn (.method name) #[]) #[.iface t recv]).runT p w #[]).1=r at k ⊢
       have k2:=Nat.le_trans h k
       split <;> first | exact k2 | exact mR k2 | trivial
     · trivial
theorem kg {p:Program} {main:Bool} {fr:Frame} {cs:List Frame} {dy:Option Dying} {v:Value} (h:d≤w.drawn):GG d (doReturn p main fr cs dy v w):=by
 unfold doReturn
 split
 · split <;> exact h
 · split
   · exact h
   · trivial
   · split
     · exact h
     · split
       · exact h
       · trivial
theorem gif {c:Prop} [Decidable c] {a b:GStep} (ha:c→GG d a) (hb:¬ c→GG d b):GG d (if c then a else b):=by
 by_cases h:c
 · rw [if_pos h]; exact ha h
 · rw [if_neg h]; exact hb h
theorem qj {p:Program} {fr:Frame} {cs:List Frame} {dy:Option Dying} {df:Deferred} (h:d≤w.drawn):GG d (callDeferred p fr cs dy df w):=by
 unfold callDeferred
 refine gif (fun _=>trivial) (fun _=>?_)
 · have k:=gp (p:=p) (invoke df.target df.args) w #[]
   generalize (invoke df.target df.args).runT p w #[]=x at k ⊢
   obtain ⟨r,es⟩:=x
   have k2:=Nat.le_trans h k
   refine GG.after ?_
   split <;> first | exact k2 | trivial | exact qJ k2 | exact ns k2 | (split <;> first | exact k2 | trivial)
theorem unwind_d {p:Program} {main:Bool} {fr:Frame} {cs:List Frame} {dy:Option Dying} (h:d≤w.drawn):GG d (unwind p main fr cs dy w):=by
 unfold unwind
 split
 · rename_i block _ ds _
   have k:=gp (p:=p) (Instr.takeDeferred block) w #[]
   generalize (Instr.takeDeferred block).runT p w #[]=x at k ⊢
   obtain ⟨r,es⟩:=x
   have k2:=Nat.le_trans h k
   refine GG.after ?_
   split <;> first | exact k2 | trivial
 · exact qj h
 · split
   · trivial
   · split
     · trivial
     · split
       · exact h
       · split
         · split
           · exact h
           · split
             · rename_i hq; exact Nat.le_trans h (jY hq)
             · trivial
             · trivial
         · split
           · exact mR h
           · trivial
   · split
     · exact kg h
     · rename_i fn _
       have k:=gp (p:=p) (results fn fr.tmps) w #[]
       generalize (results fn fr.tmps).runT p w #[]=x at k ⊢
       obtain ⟨r,es⟩:=x
       have k2:=Nat.le_trans h k
       refine GG.after ?_
       split
       · exact kg k2
       · trivial
       · trivial
theorem early_d {p:Program} {fr:Frame} {cs:List Frame} {dy:Option Dying} {g:Nat} (h:d≤w.drawn):GG d (early p fr cs dy g w):=by
 have nY:∀ (o:Outcome) (w:World),d≤w.drawn→GG d (match w.heap[g]? with
  | some (.pending c elem)=>GStep.go { frame:=fr,callers:=cs,status:=.running,dying:=dy } { w with heap:=w.heap.setIfInBounds g (.cells c elem) }
  | _=>.ended o w):=fun o w h=>by
  split
  · exact h
  · trivial
 unfold early
 simp only
 split
 · exact nY _ w h
 · split
   · trivial
   · split
     · exact nY _ w h
     · split
       · exact nY _ w h
       · split
         · trivial
         · exact h
         · trivial
         · exact nY _ w h
         · split
           · exact h
           · split
             · exact nY _ w h
             · split
               · rename_i hq; exact nY _ _ (Nat.le_trans h (jY hq))
               · rename_i hq; exact Nat.le_trans h (jY hq)
               · trivial
theorem rW {p:Program} {fr:Frame} {cs:List Frame} {dy:Option Dying} {s:Sem Next} {l:Bool} (h:d≤w.drawn):GG d (stepG.apply p l fr cs dy s w):=by
 unfold stepG.apply
 simp only
 have k:w.drawn≤(rsw (if l=true then s.runT p w #[] else (s.run p w,#[])).1).drawn:=by
  split
  · exact gp _ _ _
  · exact kD _ _
 generalize (if l=true then s.runT p w #[] else (s.run p w,#[]))=x at k ⊢
 obtain ⟨r,es⟩:=x
 have k2:=Nat.le_trans h k
 refine GG.after ?_
 clear k h
 split
 all_goals (rename_i hq; rw [hq] at k2)
 all_goals try first | exact k2 | exact trivial | exact qJ k2 | exact ns k2 | exact early_d k2
 all_goals try (split <;> exact k2)
 exact gif (fun _=>ns k2) (fun _=>k2)
theorem oper_d {p:Program} {fr:Frame} {cs:List Frame} {dy:Option Dying} {l:Bool} (h:d≤w.drawn):GG d (stepG.oper p l fr cs dy w):=by
 unfold stepG.oper
 split
 · trivial
 · split <;> exact rW h
theorem exec_d {p:Program} {main:Bool} {fr:Frame} {cs:List Frame} {dy:Option Dying} {l:Bool} (h:d≤w.drawn):GG d (stepG.exec p main l fr cs dy w):=by
 unfold stepG.exec
 simp only
 split
 all_goals try first | exact h | exact trivial | exact rW h | exact oper_d h
 all_goals try (split <;> first | exact h | exact trivial)
 all_goals try (refine GG.after ?_; split <;> first | exact trivial | (rename_i hq; first | exact rW (Nat.le_trans h (o9 hq)) | exact Nat.le_trans h (o9 hq) | exact Nat.le_trans h (runT_h1 hq)))
 all_goals try (split; (exact gif (fun _=>h) (fun _=>trivial)); (refine GG.after ?_; split; (rename_i hq; exact kg (Nat.le_trans h (o9 hq))); exact trivial))
 all_goals try (rename_i row args tail _; cases Extern.next row with
  | none=>exact trivial
  | some e=>exact rW h)
 · rename_i id k _
   cases exitTo id k with
   | some k=>exact h
   | none =>
    dsimp only [Option.elim]
    split
    · exact gif (fun _=>h) (fun _=>trivial)
    · refine GG.after ?_
      split
      · rename_i hq; exact kg (Nat.le_trans h (o9 hq))
      · trivial
 · rename_i id k _
   cases gotoIn id k with
   | some k=>exact h
   | none =>
    dsimp only [Option.elim]
    split
    · exact gif (fun _=>h) (fun _=>trivial)
    · refine GG.after ?_
      split
      · rename_i hq; exact kg (Nat.le_trans h (o9 hq))
      · trivial
 · refine gif (fun _=>h) (fun _=>?_)
   split
   · rename_i hq; exact Nat.le_trans h (jY hq)
   · trivial
 · exact gif (fun _=>oper_d h) (fun _=>h)
theorem stepG_d {p:Program} {main:Bool} {g:Goroutine} {l:Bool} (h:d≤w.drawn):GG d (stepG p main g w l):=by
 unfold stepG
 split
 split
 · exact die_d h
 · exact exec_d h
 · exact unwind_d h
theorem sif {c:Prop} [Decidable c] {a b:Stepped} (ha:c→SG d a) (hb:¬ c→SG d b):SG d (if c then a else b):=by
 by_cases h:c
 · rw [if_pos h]; exact ha h
 · rw [if_neg h]; exact hb h
theorem look_d {p:Program} {gs:Array Goroutine} {rest:Rest} (h:d≤w.drawn):SG d (Go.look p gs rest w):=by
 unfold Go.look
 split
 · simp only
   refine sif (fun _=>trivial) (fun _=>?_)
   split
   · trivial
   · split
     · rename_i hq
       have k:=jY hq
       exact Nat.le_trans h k
     · trivial
     · trivial
 · trivial
theorem serve_d {p:Program} {m:Machine} {k:Nat} (h:d≤m.world.drawn):SG d (serve p m k):=by
 unfold serve
 split
 · trivial
 · exact h
 · simp only
   split
   · trivial
   · exact h
theorem rM {p:Program} {rest:Rest} {gs:Array Goroutine} {i:Nat} {g:Goroutine} {cases:Array CommCase} {bl:Bool} {sh:CommShape} (h:d≤w.drawn):SG d (communicate p rest gs i g cases bl sh w).1:=by
 unfold communicate
 simp only
 split
 · trivial
 · split
   · split
     · split
       · rename_i hq
         unfold waitingAt at hq
         split at hq
         · split at hq
           · cases hq; exact h
           · cases hq
         · cases hq; exact h
       · trivial
     · exact h
   · split
     · trivial
     · rename_i hq
       have k:=Nat.le_trans h (jY hq)
       repeat' split
       all_goals try first | exact k | exact trivial
       all_goals try (rename_i hq2; have k2:=jY hq2; exact Nat.le_trans k k2)
       all_goals try (rename_i hq2 _; have k2:=jY hq2; exact Nat.le_trans k k2)
       all_goals try (rename_i hq2; have k2:=run_h hq2; exact Nat.le_trans k k2)
       all_goals try (rename_i hq2 _; have k2:=run_h hq2; exact Nat.le_trans k k2)
       all_goals try (rename_i hq2 _ _; have k2:=jY hq2; exact Nat.le_trans k k2)
       all_goals (rename_i hq2 _ _ _; have k2:=jY hq2; exact Nat.le_trans k k2)
theorem uX {m:Machine} {k:Nat} {t:Timer} {a b:Nat} (h:d≤m.world.drawn):d≤(retime m k t a b).2.world.drawn:=by
 unfold retime
 simp only
 split
 · unfold drain
   split <;> exact h
 · exact h
theorem yY {m:Machine} {var:Addr} {f:Nat→Timer→Value×Machine} (hf:∀ k t,d≤(f k t).2.world.drawn) {v:Value} {m':Machine} (e:timerOp.named m var f=.ok (v,m')):d≤m'.world.drawn:=by
 unfold timerOp.named at e
 split at e
 · rename_i k _
   have:=hf k (m.rest.timers.getD k default)
   cases hx:f k (m.rest.timers.getD k default)
   rw [hx] at e this
   cases e
   exact this
 · cases e
theorem xI {m:Machine} {op:TimerOp} (h:d≤m.world.drawn) {v:Value} {m':Machine} (e:timerOp m op=.ok (v,m')):d≤m'.world.drawn:=by
 unfold timerOp at e
 split at e
 · split at e
   · cases e; exact h
   · split at e
     · split at e
       · cases e
       · cases e; exact h
     · cases e
 · exact yY (fun k t=>uX h) e
 · split at e
   · rename_i var when period _ m2 hm
     refine yY (fun k t=>uX ?_) e
     unfold timerOp.opened at hm
     split at hm
     · split at hm
       · cases hm; exact h
       · cases hm
     · cases hm; exact h
   · cases e
 · cases e; exact h
theorem runT_dm {p:Program} {m:Machine} {i:Nat} {l:Bool} (h:d≤m.world.drawn):SG d (Go.runT p m i l).1:=by
 unfold Go.runT
 simp only
 have k:=stepG_d (p:=p) (main:=i == 0) (g:=(m.gs.swapAt! i { (default:Goroutine) with status:=.finished }).1) (w:=m.world) (l:=l) h
 split <;> (rename_i hq; rw [hq] at k)
 · trivial
 · exact rM k
 · exact k
 · exact k
 · exact sif (fun _=>trivial) (fun _=>k)
 · exact k
 · exact look_d k
 · exact k
 · exact k
 · split
   · exact k
   · split
     · rename_i hq2
       unfold endThrow dieOf at hq2
       cases hq2; exact k
     · trivial
   · trivial
 · split
   · rename_i hq2; have k2:=xI (by exact k) hq2; exact k2
   · split
     · rename_i hq2
       unfold endThrow dieOf at hq2
       cases hq2; exact k
     · trivial
   · trivial
   · trivial
theorem uG {p:Program} {m:Machine} (h:d≤m.world.drawn):MG d (askOn p m):=by
 unfold askOn
 simp only
 split
 · trivial
 · rename_i hq
   have k:=Nat.le_trans h (jY hq)
   have pick:∀ (m2:Machine) (rs:List Nat),d≤m2.world.drawn→MG d (match (choose (.sched rs.length)).run p m2.world with
    | .halt _ w => .machine (.ended (.stuck "sched" "") w)
    | .ok k world =>
     if rs.length≤1 then .goroutine { m2 with world } (rs.getD k 0) else
     match (choose (Question.extern "sched.slice" 65536)).run p world with
     | .halt _ w => .machine (.ended (.stuck "sched.slice" "") w)
     | .ok n world=>.goroutine { m2 with world,rest:={ m2.rest with slice:=if n=0 then none else some (rs.getD k 0,n) } } (rs.getD k 0)):=fun m2 rs h2=>by
    split
    · trivial
    · rename_i hq2
      have k2:=Nat.le_trans h2 (jY hq2)
      split
      · exact k2
      · split
        · trivial
        · rename_i hq3
          have k3:=Nat.le_trans k2 (jY hq3)
          exact k3
   split
   · exact serve_d k
   · split
     · split
       · exact k
       · split
         · exact k
         · split <;> trivial
     · split
       · exact pick { m with world:=_ } _ k
       · split
         · trivial
         · rename_i hq2
           have k2:=Nat.le_trans k (jY hq2)
           exact pick { m with world:=_ } _ k2
         · rename_i hq2
           have k2:=Nat.le_trans k (jY hq2)
           exact k2
         · rename_i hq2
           have k2:=Nat.le_trans k (jY hq2)
           exact pick _ _ k2
theorem ask_d {p:Program} {m:Machine} (h:d≤m.world.drawn):MG d (Go.ask p m):=by
 unfold Go.ask
 split
 · split
   · trivial
   · rename_i hq
     have k:=Nat.le_trans h (jY hq)
     have k2:=look_d (p:=p) (gs:=m.gs) (rest:=m.rest) k
     split
     · rename_i hq2; rw [hq2] at k2; exact uG k2
     · exact k2
   · rename_i hq
     have k:=Nat.le_trans h (jY hq)
     exact uG k
 · exact uG h
theorem move_d {p:Program} {m:Machine} (h:d≤m.world.drawn):MG d (move p m):=by
 unfold move
 split
 · split
   · exact h
   · trivial
 · split
   · split
     · exact h
     · exact ask_d h
   · exact ask_d h
theorem step_d {p:Program} {m:Machine} (h:d≤m.world.drawn):SG d (step p m):=by
 unfold step stepT
 have k:=move_d (p:=p) h
 split <;> (rename_i hq; rw [hq] at k)
 · exact runT_dm k
 · exact k
theorem runN_d {p:Program}:∀ (n:Nat) {m m':Machine},runN p n m=.next m'→m.world.drawn≤m'.world.drawn
 | 0,m,m',h=>by
  unfold runN at h
  cases h; exact Nat.le_refl _
 | n+1,m,m',h=>by
  unfold runN at h
  have k:=step_d (p:=p) (m:=m) (Nat.le_refl _)
  split at h
  · rename_i m1 hq
    rw [hq] at k
    exact Nat.le_trans k (runN_d n h)
  · rw [h] at k
    exact k
end
theorem Calls.drawn {P:Program} {f:FuncId} {args:Array Value} {w:World} {R:Ending→World→Prop} (h:Calls P f args w R) (hR:∀ e w',R e w'→∃ v,e=.returned v) :
 Calls P f args w fun e w'=>R e w'∧w.drawn≤w'.drawn:=by
 intro cs
 obtain ⟨e,w',fr,h1,h2,h3⟩:=h cs
 obtain ⟨v,rfl⟩:=hR e w' h1
 refine ⟨.returned v,w',fr,⟨h1,?_⟩,h2,h3⟩
 obtain ⟨n,hn⟩:Steps P _ _:=h2
 exact runN_d n hn
end Go.Sx
namespace Go.Proofs
open Go.Shelf
def Tryz.lays105_ren:Go.Shelf.Ren:=⟨fun | 105=>324 | 212=>350 | 99=>351 | 165=>352 | 166=>353 | 170=>354 | 169=>355 | 263=>369 | 264=>325 | 206=>370 | 240=>371 | 241=>372 | 276=>378 | 277=>379 | n=>n,fun | 9=>9 | 3=>3 | 4=>4 | 20=>20 | 0=>0 | 46=>348 | 109=>408 | 5=>5 | 72=>413 | 76=>417 | 51=>343 | 146=>431 | 53=>260 | 148=>376 | 70=>411 | 37=>339 | 75=>416 | 127=>433 | 164=>438 | 80=>345 | n=>n,fun | n=>n⟩
theorem Tryz.lays105:Go.Proofs.Lays.n105 Tryz.prog Tryz.lays105_ren:={
 mixed:=by kernel_rfl
 f99:=Tryz.func351.trans (congrArg some (by kernel_rfl))
 f105:=Tryz.func324.trans (congrArg some (by kernel_rfl))
 f165:=Tryz.func352.trans (congrArg some (by kernel_rfl))
 f166:=Tryz.func353.trans (congrArg some (by kernel_rfl))
 f169:=Tryz.func355.trans (congrArg some (by kernel_rfl))
 f170:=Tryz.func354.trans (congrArg some (by kernel_rfl))
 f206:=Tryz.func370.trans (congrArg some (by kernel_rfl))
 f212:=Tryz.func350.trans (congrArg some (by kernel_rfl))
 f240:=Tryz.func371.trans (congrArg some (by kernel_rfl))
 f241:=Tryz.func372.trans (congrArg some (by kernel_rfl))
 f263:=Tryz.func369.trans (congrArg some (by kernel_rfl))
 f264:=Tryz.func325.trans (congrArg some (by kernel_rfl))
 f276:=Tryz.func378.trans (congrArg some (by kernel_rfl))
 f277:=Tryz.func379.trans (congrArg some (by kernel_rfl))
 t0:=Tryz.underlying0
 a0:=Tryz.isAgg0
 z0:=Tryz.sizeOf0
 v0:=Tryz.zeroValue0
 t3:=Tryz.underlying3
 a3:=Tryz.isAgg3
 z3:=Tryz.sizeOf3
 v3:=Tryz.zeroValue3
 t4:=Tryz.underlying4
 a4:=Tryz.isAgg4
 z4:=Tryz.sizeOf4
 v4:=Tryz.zeroValue4
 t5:=nn5
 a5:=aa5
 z5:=zz5
 v5:=vv5
 t9:=nn9
 a9:=Tryz.isAgg9
 z9:=Tryz.sizeOf9
 v9:=Tryz.zeroValue9
 t20:=Tryz.underlying20
 a20:=Tryz.isAgg20
 z20:=Tryz.sizeOf20
 v20:=Tryz.zeroValue20
 t37:=nn339
 a37:=Tryz.isAgg339
 z37:=Tryz.sizeOf339
 v37:=Tryz.zeroValue339
 t46:=Tryz.underlying348
 a46:=Tryz.isAgg348
 z46:=Tryz.sizeOf348
 v46:=Tryz.zeroValue348
 t51:=Tryz.underlying343
 a51:=Tryz.isAgg343
 z51:=Tryz.sizeOf343
 v51:=Tryz.zeroValue343
 t53:=Tryz.underlying260
 a53:=Tryz.isAgg260
 z53:=Tryz.sizeOf260
 v53:=Tryz.zeroValue260
 t70:=Tryz.underlying411
 a70:=Tryz.isAgg411
 z70:=Tryz.sizeOf411
 v70:=Tryz.zeroValue411
 t72:=Tryz.underlying413
 a72:=Tryz.isAgg413
 z72:=Tryz.sizeOf413
 v72:=Tryz.zeroValue413
 t75:=Tryz.underlying416
 a75:=Tryz.isAgg416
 z75:=Tryz.sizeOf416
 v75:=Tryz.zeroValue416
 t76:=Tryz.underlying417
 a76:=Tryz.isAgg417
 z76:=Tryz.sizeOf417
 v76:=Tryz.zeroValue417
 t109:=Tryz.underlying408
 a109:=Tryz.isAgg408
 z109:=Tryz.sizeOf408
 v109:=Tryz.zeroValue408
 t127:=Tryz.underlying433
 a127:=Tryz.isAgg433
 z127:=Tryz.sizeOf433
 v127:=Tryz.zeroValue433
 t146:=Tryz.underlying431
 a146:=Tryz.isAgg431
 z146:=Tryz.sizeOf431
 v146:=Tryz.zeroValue431
 t148:=Tryz.underlying376
 a148:=Tryz.isAgg376
 z148:=Tryz.sizeOf376
 v148:=Tryz.zeroValue376
 t164:=Tryz.underlying438
 a164:=Tryz.isAgg438
 z164:=Tryz.sizeOf438
 v164:=Tryz.zeroValue438 }
theorem Tryz.Builder_Extra_105:Builder.Extra Tryz.prog Tryz.lays105_ren:={
 sizeBuilder:=by kernel_rfl
 liesBuilder:=by kernel_rfl
 t5:=nn5
 a5:=aa5
 z5:=zz5
 v5:=vv5
 infoByte:=by kernel_rfl
 cellsByte:=by kernel_rfl
 sizeByte:=by kernel_rfl
 neB5:=by decide }
end Go.Proofs
namespace Go.Sx
open Go Go.RowKit Go.Proofs
theorem abj (s:ByteArray) (c:Nat) (hc:c≤9223372036854775807) (hl:s.size*c≤140737488355328) (w0:World):Calls Tryz.prog 324 #[.string s,.int .i64 ((c:Nat):Int)] w0 (dE w0 (.string ⟨(Lib.repeatL s.data.toList c).toArray⟩) True) :=
 (Calls.drawn (Any.strings_Repeat Tryz.lays105 Tryz.Builder_Extra_105 s c w0 hc hl) fun e w' h=>⟨_,h.1⟩).mono fun e w' h=>⟨h.1.1,trivial,⟨h.1.2.os,h.1.2.tape,h.1.2.output,h.1.2.size,h.1.2.block,h.2⟩⟩
theorem Zeros_ct (c:Nat) (hc:c≤140737488355328) (w0:World):Calls Tryz.prog 324 #[.string ⟨#[0]⟩,.int .i64 ((c:Nat):Int)] w0 (dE w0 (.string ⟨(Lib.repeatL (ByteArray.data ⟨#[0]⟩).toList c).toArray⟩) True) :=
 abj ⟨#[0]⟩ c (by omega) (by show 1*c≤_; omega) w0
end Go.Sx
namespace Go.Sx
open Go Go.RowKit Go.Proofs
theorem yv (a:Nat) (za:SzB 30 a) (w0:World):Calls Tryz.prog 287 #[(.string (bs a))] w0 (dE w0 (.string (bs (bC a))) (SzB 29 (bC a))) :=
 kZ a za (fun w0=>Zeros_ct (rexp a / 8) (by
  have hlz:(le a).length≤65536:=by unfold SzB at za; omega
  have hn:nbit a=8*((le a).length - 1)+Lib.bitLen (nB a):=rfl
  have hm:rexp a=(nbit a+1) / 2:=rfl
  rcases Nat.eq_zero_or_pos a with rfl | h0
  · exact Nat.le_trans (Nat.div_le_self _ _) (by decide +kernel)
  · obtain ⟨t1,t2,t3,_⟩:=oR h0
    omega) w0) w0
end Go.Sx
namespace Go.Sx
def RtR (_:GR):Prop:=True
end Go.Sx
namespace Go.Sx
theorem kr (x:Rat):0≤x*x:=by
 rcases (show 0≤x∨0≤-x by grind) with h | h
 · exact gD h h
 · have:=gD h h; grind
theorem div_sq {n d:Rat} (hd:d≠0):n / d*(n / d)=n*n / (d*d):=by
 rw [Rat.div_def,Rat.div_def,Rat.inv_mul_rev]; grind
def sgn (a b:Nat):Int:=if a < b then -1 else if b < a then 1 else 0
theorem nu {x y:GR} (hx:ROk x) (hy:ROk y):ao y x=- ao x y :=
 (jz hy hx).uniq ((jz hx hy).neg.congr fun k=>by grind)
theorem rN {x:GR} (hx:ROk x):ao x x=0:=by
 have:=nu hx hx; omega
theorem tS {x y z:GR} (hx:ROk x) (hy:ROk y) (hz:ROk z) (h1:ao x y=-1) (h2:ao y z=-1):ao x z=-1:=by
 have a:=jz hx hy
 have b:=jz hy hz
 rw [h1] at a
 rw [h2] at b
 exact (jz hx hz).uniq ((a.add b).congr fun k=>by grind)
theorem ti {α:Type} {p q:α→Bool}:∀ {l:List α},(∀ z∈l,p z=true→q z=true)→(∃ z∈l,q z=true∧p z=false)→l.countP p < l.countP q
 | [],_,⟨_,h,_⟩=>by cases h
 | a::l,h,⟨z,hz,hq,hp⟩=>by
  have h1:∀ z∈l,p z=true→q z=true:=fun z hz=>h z (List.mem_cons_of_mem _ hz)
  have h2:l.countP p≤l.countP q:=List.countP_mono_left h1
  rw [List.countP_cons,List.countP_cons]
  rcases List.mem_cons.1 hz with rfl | hm
  · rw [hq,hp]; simp; omega
  · have h3:=ti h1 ⟨z,hm,hq,hp⟩
    by_cases ha:p a=true
    · rw [ha,h a (List.mem_cons_self ..) ha]; simp; omega
    · rw [if_neg ha]; split <;> omega
class Key where
 l:List GR
 ok:∀ x∈l,ROk x
 sz:l.length < 100000
 z:default∈l
 rt:∀ x∈l,RtR x
 szr:∀ x∈l,SzR 36 x
def Tm [K:Key] (x:GR):Prop:=x∈K.l
def tk [K:Key] (x:GR):Nat:=K.l.countP fun y=>ao y x == -1
section
variable [K:Key]
theorem Tm.iff {x:GR}:decide (x∈K.l)=true↔Tm x:=decide_eq_true_iff
theorem wh:Tm (default:GR):=K.z
theorem Tm.rt {x:GR} (h:Tm x):RtR x:=K.rt x h
theorem Tm.szr {x:GR} (h:Tm x):SzR 36 x:=K.szr x h
theorem Tm.ok {x:GR} (h:Tm x):ROk x:=K.ok x h
theorem oU {x y:GR} (hx:Tm x) (hy:Tm y) (h:ao x y=-1):tk x < tk y:=by
 refine ti (fun z hz hp=>?_) ⟨x,hx,by rw [h]; rfl,by rw [rN hx.ok]; rfl⟩
 rw [eq_of_beq hp |> fun e=>tS (K.ok z hz) hx.ok hy.ok e h]; rfl
theorem Tm.cmp {x y:GR} (hx:Tm x) (hy:Tm y):ao x y=sgn (tk x) (tk y):=by
 unfold sgn
 rcases (jz hx.ok hy.ok).cases with h | h | h
 · have:=oU hy hx (by rw [nu hx.ok hy.ok,h])
   rw [if_neg (by omega),if_pos this,h]
 · rw [if_pos (oU hx hy h),h]
 · rw [mW hx.ok hy.ok h,rN hy.ok,if_neg (by omega),if_neg (by omega)]
theorem Tm.inj {x y:GR} (hx:Tm x) (hy:Tm y):tk x=tk y↔x=y:=by
 constructor
 · intro e
   have h:=hx.cmp hy
   unfold sgn at h
   rw [if_neg (by omega),if_neg (by omega)] at h
   exact mW hx.ok hy.ok h
 · intro e; rw [e]
theorem tk_lt {x:GR} (_:Tm x):tk x < 100000:=Nat.lt_of_le_of_lt List.countP_le_length K.sz
end
attribute [irreducible] tk Tm
end Go.Sx
namespace Go.Sx
theorem je {a b:Nat} (h:a < b):sgn a b=-1:=if_pos h
theorem jI {a b:Nat} (h:b < a):sgn a b=1:=by unfold sgn; rw [if_neg (by omega),if_pos h]
theorem fY (a:Nat):sgn a a=0:=by unfold sgn; rw [if_neg (Nat.lt_irrefl a),if_neg (Nat.lt_irrefl a)]
theorem kM {a b:Nat}:sgn a b < 0↔a < b:=by
 rcases Nat.lt_trichotomy a b with h | h | h
 · rw [je h]; simp [h]
 · subst h; rw [fY]; simp
 · rw [jI h]; simp; omega
theorem sgn_zero {a b:Nat}:sgn a b=0↔a=b:=by
 rcases Nat.lt_trichotomy a b with h | h | h
 · rw [je h]; simp; omega
 · subst h; rw [fY]; simp
 · rw [jI h]; simp; omega
def ci (i:Iv):Int:=bif i.openLo then 1 else 0
def cU {α:Type} (a b:U α):Int:=lR [ao a.iv.lo b.iv.lo,bN (ci a.iv) (ci b.iv),ao a.iv.hi b.iv.hi]
theorem or3 (a b c:Int):lR [a,b,c]=if a≠0 then a else if b≠0 then b else c:=by
 unfold lR
 by_cases ha:a=0
 · by_cases hb:b=0
   · by_cases hc:c=0
     · subst ha hb hc; rfl
     · subst ha hb
       have e:(c != 0)=true:=bne_iff_ne.2 hc
       simp [d7,fin,kh,gt,e]
   · subst ha
     have e:(b != 0)=true:=bne_iff_ne.2 hb
     simp [d7,fin,kh,gt,e,hb]
 · have e:(a != 0)=true:=bne_iff_ne.2 ha
   simp [d7,fin,kh,gt,e,ha]
theorem ci00:bN 0 0=0:=by decide +kernel
theorem ci01:bN 0 1=-1:=by decide +kernel
theorem ci10:bN 1 0=1:=by decide +kernel
theorem ci11:bN 1 1=0:=by decide +kernel
def Tv [K:Key] (i:Iv):Prop:=Tm i.lo∧Tm i.hi
def kU [K:Key] (i:Iv):Nat:=(tk i.lo*2+(bif i.openLo then 1 else 0))*100000+tk i.hi
theorem wZ [K:Key] {α:Type} {a b:U α} (ha:Tv a.iv) (hb:Tv b.iv):cU a b=sgn (kU a.iv) (kU b.iv):=by
 have l1:=tk_lt ha.2
 have l2:=tk_lt hb.2
 unfold cU
 rw [or3,ha.1.cmp hb.1,ha.2.cmp hb.2]
 unfold kU ci
 generalize tk a.iv.lo=p at *
 generalize tk b.iv.lo=q at *
 generalize tk a.iv.hi=s at *
 generalize tk b.iv.hi=t at *
 have key:∀ x y:Nat,x≤1→y≤1→(if sgn p q≠0 then sgn p q else if sgn x y≠0 then sgn x y else sgn s t)=sgn ((p*2+x)*100000+s) ((q*2+y)*100000+t):=by
  intro x y hx hy
  rcases Nat.lt_trichotomy p q with h | h | h
  · rw [je h,if_pos (by decide)]; exact (je (by omega)).symm
  · subst h
    rw [fY,if_neg (by decide)]
    rcases Nat.lt_trichotomy x y with h | h | h
    · rw [je h,if_pos (by decide)]; exact (je (by omega)).symm
    · subst h
      rw [fY,if_neg (by decide)]
      rcases Nat.lt_trichotomy s t with h | h | h
      · rw [je h,je (by omega)]
      · subst h
        rw [fY,fY]
      · rw [jI h,jI (by omega)]
    · rw [jI h,if_pos (by decide)]; exact (jI (by omega)).symm
  · rw [jI h,if_pos (by decide)]; exact (jI (by omega)).symm
 cases a.iv.openLo <;> cases b.iv.openLo <;> simp only [cond_true,cond_false,ci00,ci01,ci10,ci11]
 · exact key 0 0 (by decide) (by decide)
 · exact key 0 1 (by decide) (by decide)
 · exact key 1 0 (by decide) (by decide)
 · exact key 1 1 (by decide) (by decide)
theorem wq [K:Key] {α:Type} [Inhabited (U α)] {c:U α→U α→Int} (hc:∀ a b,c a b=cU a b) {d:List (U α)} (hd:∀ u∈d,Tv u.iv) :
 (sO c d 0 d.length).Perm d∧(sO c d 0 d.length).Pairwise fun a b=>kU a.iv≤kU b.iv:=by
 refine ⟨lF d,?_⟩
 have hp:=sN (c:=c) (S:=fun u=>Tv u.iv)
  (fun x y hx hy h=>by rw [hc,wZ hx hy,kM] at h; rw [hc,wZ hy hx,kM]; omega)
  (fun x y z hx hy hz h1 h2=>by rw [hc,wZ hx hy,kM] at h1; rw [hc,wZ hy hz,kM] at h2; rw [hc,wZ hx hz,kM]; omega) hd
 refine hp.imp_of_mem (fun {a b} ha hb h=>?_)
 have ha':=hd a ((lF d).mem_iff.1 ha)
 have hb':=hd b ((lF d).mem_iff.1 hb)
 rw [hc,wZ hb' ha',kM] at h
 omega
def eW [K:Key] (i:Iv):Nat:=2*tk i.lo+(bif i.openLo then 1 else 0)
def fg [K:Key] (i:Iv):Int:=2*tk i.hi - (bif i.openHi then 1 else 0)
def Wv [K:Key] (i:Iv):Prop:=Tv i∧tk i.lo≤tk i.hi∧(tk i.lo=tk i.hi→i.openLo=false∧i.openHi=false)
theorem Wv.le [K:Key] {i:Iv} (h:Wv i):(eW i:Int)≤fg i:=by
 obtain ⟨_,h1,h2⟩:=h
 unfold eW fg
 by_cases e:tk i.lo=tk i.hi
 · rw [(h2 e).1,(h2 e).2,e]; simp
 · cases i.openLo <;> cases i.openHi <;> simp <;> omega
theorem pS [K:Key] {a b:Iv} (ha:Tv a) (hb:Tv b):dP a b=decide (fg a < (eW b:Int)):=by
 unfold dP
 rw [ha.2.cmp hb.1]
 unfold fg eW
 rcases Nat.lt_trichotomy (tk a.hi) (tk b.lo) with h | h | h
 · rw [je h]
   cases a.openHi <;> cases b.openLo <;> simp <;> omega
 · rw [h,fY]
   cases a.openHi <;> cases b.openLo <;> simp <;> omega
 · rw [jI h]
   cases a.openHi <;> cases b.openLo <;> simp <;> omega
end Go.Sx
namespace Go.Sx
theorem lC {S R:Type} {B:S→Nx S R} (n:Nat) {s s':S} (h:B s=.go s'):d7 B (n+1) s=d7 B n s':=by
 show (match B s with | .go s'=>d7 B n s' | .out s'=>.inl s' | .ret r=>.inr r)=_
 rw [h]
theorem ke {S R:Type} {B:S→Nx S R} (n:Nat) {s s':S} (h:B s=.out s'):d7 B (n+1) s=.inl s':=by
 show (match B s with | .go s'=>d7 B n s' | .out s'=>.inl s' | .ret r=>.inr r)=_
 rw [h]
theorem zB {S R:Type} {B:S→Nx S R} (n:Nat) {s:S} {r:R} (h:B s=.ret r):d7 B (n+1) s=.inr r:=by
 show (match B s with | .go s'=>d7 B n s' | .out s'=>.inl s' | .ret r=>.inr r)=_
 rw [h]
end Go.Sx
namespace Go.Sx
section
variable {α:Type}
end
section
variable {α R:Type} [Inhabited (At α)]
omit [Inhabited (At α)] in
theorem qG {β γ:Type} [Inhabited γ] {f:β→γ→β} (l:List γ) {B:Nat×β→Nx (Nat×β) R} {I:β→Prop} (hI:∀ o x,I o→I (f o x)) (hgo:∀ o i,I o→i < l.length→B (i,o)=.go (i+1,f o (gt l i))) (hout:∀ o,B (l.length,o)=.out (l.length,o)) :
 ∀ (s p:List γ) (o:β) (k:Nat),I o→l=p++s→s.length < k→d7 B k (p.length,o)=.inl (l.length,s.foldl f o)
 | [],p,o,k+1,_,hl,_=>by
  rw [List.append_nil] at hl
  rw [← hl,ke k (hout o)]
  rfl
 | x::s,p,o,k+1,hi,hl,hk=>by
  have hg:gt l p.length=x:=by rw [hl]; exact uo rfl
  have h1:=hgo o p.length hi (by rw [hl]; simp)
  rw [hg] at h1
  have ih:=qG l hI hgo hout s (p++[x]) (f o x) k (hI _ _ hi) (by rw [hl]; simp) (by simp at hk; omega)
  rw [lC k h1,List.foldl_cons,← ih,List.length_append]
  rfl
end
end Go.Sx
namespace Go.Sx
def ptU {α:Type} (t:GR) (f:α):U α:=⟨⟨t,t,false,false⟩,f⟩
def mP {α:Type} (t t':GR) (f:α):U α:=⟨⟨t,t',true,true⟩,f⟩
def atU {α:Type} (u:U α):List (U α) :=
 (bif u.iv.openLo then [] else [ptU u.iv.lo u.f])++(bif aM u.iv then [] else mP u.iv.lo u.iv.hi u.f::(bif u.iv.openHi then [] else [ptU u.iv.hi u.f]))
theorem sX {α β:Type} (g:α→List β):∀ (l:List α) (o:List β),l.foldl (fun o u=>o++g u) o=o++l.flatMap g
 | [],o=>by simp
 | u::l,o=>by rw [List.foldl_cons,sX g l,List.flatMap_cons,List.append_assoc]
end Go.Sx
namespace Go.Sx
theorem sc {β:Type} {k:β→Nat}:∀ {l m:List β},(l.Pairwise fun a b=>k a < k b)→(m.Pairwise fun a b=>k a < k b)→(∀ x,x∈l↔x∈m)→l=m
 | [],[],_,_,_=>rfl
 | [],y::m,_,_,h=>by have:=(h y).2 (List.mem_cons_self ..); cases this
 | x::l,[],_,_,h=>by have:=(h x).1 (List.mem_cons_self ..); cases this
 | x::l,y::m,hl,hm,h=>by
  rw [List.pairwise_cons] at hl hm
  have e:x=y:=by
   rcases List.mem_cons.1 ((h x).1 (List.mem_cons_self ..)) with e | hx
   · exact e
   · rcases List.mem_cons.1 ((h y).2 (List.mem_cons_self ..)) with e | hy
     · exact e.symm
     · have h1:=hm.1 x hx
       have h2:=hl.1 y hy
       omega
  subst e
  refine congrArg (x::·) (sc hl.2 hm.2 fun z=>?_)
  constructor
  · intro hz
    rcases List.mem_cons.1 ((h z).1 (List.mem_cons_of_mem _ hz)) with rfl | hz'
    · exact absurd (hl.1 z hz) (Nat.lt_irrefl _)
    · exact hz'
  · intro hz
    rcases List.mem_cons.1 ((h z).2 (List.mem_cons_of_mem _ hz)) with rfl | hz'
    · exact absurd (hm.1 z hz) (Nat.lt_irrefl _)
    · exact hz'
def Dj [K:Key] (a b:Iv):Prop:=fg a < (eW b:Int)∨fg b < (eW a:Int)
theorem Dj.symm [K:Key] {a b:Iv} (h:Dj a b):Dj b a:=Or.symm h
section
variable {α:Type}
end
end Go.Sx
namespace Go.Sx
theorem yf {R:Type} {B:Nat→Nx Nat R} {n:Nat} {bad:Nat→Bool} {r:R} (h:∀ i,i < n→B i=bif bad i then .ret r else .go (i+1)) (ho:B n=.out n) :
 ∀ (k a:Nat),a≤n→n - a < k→(∀ i,a≤i→i < n→bad i=false)→d7 B k a=.inl n
 | k+1,a,ha,hk,hb=>by
  by_cases e:a=n
  · subst e; exact ke k ho
  · have h1:=h a (by omega)
    rw [hb a (Nat.le_refl _) (by omega),cond_false] at h1
    rw [lC k h1]
    exact yf h ho k (a+1) (by omega) (by omega) fun i h1 h2=>hb i (by omega) h2
end Go.Sx
namespace Go.Sx
section
variable {α:Type}
theorem kU_eq [K:Key] (i:Iv):kU i=eW i*100000+tk i.hi:=by unfold kU eW; rw [Nat.mul_comm 2]
theorem oZ [K:Key] {u s:List (U α)} (hW:∀ x∈u,Wv x.iv) (hD:u.Pairwise fun a b=>Dj a.iv b.iv) (hp:s.Perm u) (hs:s.Pairwise fun a b=>kU a.iv≤kU b.iv):s.Pairwise fun a b=>fg a.iv < (eW b.iv:Int):=by
 have hDs:s.Pairwise fun a b=>Dj a.iv b.iv:=(hp.pairwise_iff fun {a b} h=>Dj.symm h).2 hD
 refine (hs.and hDs).imp_of_mem fun {a b} ha hb h=>?_
 have ha':=hW a (hp.mem_iff.1 ha)
 have hb':=hW b (hp.mem_iff.1 hb)
 have l1:=ha'.le
 have l2:=hb'.le
 have t1:=tk_lt ha'.1.2
 have t2:=tk_lt hb'.1.2
 obtain ⟨hk,hd⟩:=h
 rw [kU_eq,kU_eq] at hk
 unfold Dj at hd
 omega
theorem gF {β:Type} [Inhabited β] {l:List β} {i:Nat} (h:i < l.length):gt l i=l[i]:=by
 simp [gt,List.getD,List.getElem?_eq_getElem h]
theorem chain_pw [K:Key] [Inhabited (U α)] {s:List (U α)} (hW:∀ x∈s,Wv x.iv) (h:∀ i,0 < i→i < s.length→dP (gt s (i - 1)).iv (gt s i).iv=true):s.Pairwise fun a b=>fg a.iv < (eW b.iv:Int):=by
 rw [List.pairwise_iff_getElem]
 have key:∀ (d i:Nat) (hj:i+d+1 < s.length),fg (s[i]'(by omega)).iv < (eW s[i+d+1].iv:Int):=by
  intro d
  induction d with
  | zero =>
   intro i hj
   have h1:=h (i+1) (by omega) hj
   rw [gF hj,gF (by omega:i+1 - 1 < s.length),pS (hW _ (List.getElem_mem _)).1 (hW _ (List.getElem_mem _)).1,decide_eq_true_eq] at h1
   exact h1
  | succ d ih =>
   intro i hj
   have h0:=ih i (by omega)
   have hj':i+d+1+1 < s.length:=by omega
   have h1:=h (i+d+1+1) (by omega) hj'
   rw [gF hj',gF (by omega:i+d+1+1 - 1 < s.length),pS (hW _ (List.getElem_mem _)).1 (hW _ (List.getElem_mem _)).1,decide_eq_true_eq] at h1
   have h2:=(hW (s[i+d+1]'(by omega)) (List.getElem_mem _)).le
   have h3:fg (s[i+d+1]'(by omega)).iv < (eW s[i+d+1+1].iv:Int):=h1
   have h4:(eW (s[i+d+1]'(by omega)).iv:Int) < eW s[i+d+1+1].iv:=by omega
   exact Int.lt_trans h0 h4
 intro i j hi hj hij
 have:=key (j - i - 1) i (by omega)
 simpa only [show i+(j - i - 1)+1=j by omega] using this
theorem vY [K:Key] [Inhabited (U α)] {u s:List (U α)} (hW:∀ x∈u,Wv x.iv) (hp:s.Perm u) (hs:s.Pairwise fun a b=>kU a.iv≤kU b.iv) :
 (∀ i,0 < i→i < s.length→dP (gt s (i - 1)).iv (gt s i).iv=true)↔u.Pairwise fun a b=>Dj a.iv b.iv:=by
 constructor
 · intro h
   have:=chain_pw (fun x hx=>hW x (hp.mem_iff.1 hx)) h
   exact (hp.pairwise_iff fun {a b} h=>Dj.symm h).1 (this.imp fun h=>.inl h)
 · intro h i h0 h1
   have hd:=oZ hW h hp hs
   rw [List.pairwise_iff_getElem] at hd
   have:=hd (i - 1) i (by omega) h1 (by omega)
   rw [gF h1,gF (by omega:i - 1 < s.length),pS (hW _ (hp.mem_iff.1 (List.getElem_mem _))).1 (hW _ (hp.mem_iff.1 (List.getElem_mem _))).1,decide_eq_true_eq]
   exact this
end
end Go.Sx
namespace Go.Sx
section
variable {α:Type} [Inhabited α] (eqf:α→α→Bool) (same:α→α→GR→Bool) (red:α→GR→α)
def tD (L out:List (U α)) (x:Nat):Bool:=(decide (((out.length:Nat):Int)>0) && decide ((gt out (out.length - 1)).iv.hi=(gt L x).iv.lo)) && !(aM (gt out (out.length - 1)).iv)
def jm (out:List (U α)) (t:GR):Bool:=(decide (((out.length:Nat):Int)>0) && decide ((gt out (out.length - 1)).iv.hi=t)) && !((gt out (out.length - 1)).iv.openHi)
def i4 (L out:List (U α)) (x:Nat):List (U α) :=
 bif ((((decide (((x:Nat):Int)>0)) && (aM ((gt L (x - 1)).iv))) && (decide (((gt L (x - 1)).iv).lo=((gt L x).iv).lo))) && (!(jm out (((gt L x).iv).lo)))) then
  out++[(⟨(⟨((gt L x).iv).lo,((gt L x).iv).hi,false,((gt L x).iv).openHi⟩:Iv),(gt L x).f⟩:U α)]
 else out++[gt L x]
def kF (L out:List (U α)) (x:Nat):List (U α) :=
 bif (((decide (((x+1:Nat):Int) < ((L.length:Nat):Int))) && (decide (((gt L (x+1)).iv).lo=((gt L x).iv).lo))) && (same ((gt L (x+1)).f) ((gt L x).f) (((gt L x).iv).lo))) then out
 else out++[(⟨(gt L x).iv,(red ((gt L x).f) (((gt L x).iv).lo))⟩:U α)]
def dT (L out:List (U α)) (x:Nat):List (U α) :=
 bif tD L out x then
  bif (!(aM ((gt L x).iv))) then
   bif ((!((gt out (out.length - 1)).iv).openHi) && (eqf ((gt out (out.length - 1)).f) ((gt L x).f))) then
    out.set (out.length - 1) (⟨(⟨((gt out (out.length - 1)).iv).lo,((gt L x).iv).hi,((gt out (out.length - 1)).iv).openLo,true⟩:Iv),(gt out (out.length - 1)).f⟩:U α)
   else i4 L out x
  else
   bif (same ((gt out (out.length - 1)).f) ((gt L x).f) (((gt L x).iv).lo)) then
    out.set (out.length - 1) (⟨(⟨((gt out (out.length - 1)).iv).lo,((gt out (out.length - 1)).iv).hi,((gt out (out.length - 1)).iv).openLo,false⟩:Iv),(gt out (out.length - 1)).f⟩:U α)
   else kF same red L out x
 else
  bif (!(aM ((gt L x).iv))) then i4 L out x else kF same red L out x
end
theorem cond_go {S R:Type} {b:Bool} {X Y:Nx (S×Nat) R} {p q:S} {k:Nat} (h1:X=.go (p,k)) (h2:Y=.go (q,k)):(bif b then X else Y)=.go (bif b then p else q,k):=by cases b <;> assumption
end Go.Sx
namespace Go.Sx
def fL {β:Type} (st:β→Nat→β) (o:β):Nat→β
 | 0=>o
 | n+1=>st (fL st o n) n
theorem sM {β R:Type} {st:β→Nat→β} {o:β} {n:Nat} {B:β×Nat→Nx (β×Nat) R} (hgo:∀ o i,i < n→B (o,i)=.go (st o i,i+1)) (hout:∀ o,B (o,n)=.out (o,n)) :
 ∀ (k i:Nat),i≤n→n - i < k→d7 B k (fL st o i,i)=.inl (fL st o n,n)
 | k+1,i,hi,hk=>by
  by_cases e:i=n
  · subst e; exact ke k (hout _)
  · rw [lC k (hgo _ i (by omega))]
    exact sM hgo hout k (i+1) (by omega) (by omega)
end Go.Sx
namespace Go.Sx
structure Turns {α:Type} [Inhabited α] (pl:GR→Nat) (A:List (At α)):Prop where
 gap:∀ i,i < A.length→(gt A i).gap=decide (i % 2=1)
 adj:∀ i,i+1 < A.length→(gt A (i+1)).frm=(gt A i).til
 pt:∀ i,i < A.length→(gt A i).gap=false→(gt A i).til=(gt A i).frm
 lt:∀ i,i < A.length→(gt A i).gap=true→pl (gt A i).frm < pl (gt A i).til
section
variable {α:Type} [Inhabited α] {pl:GR→Nat} {A:List (At α)}
theorem Turns.le1 (h:Turns pl A) {i:Nat} (hi:i < A.length):pl (gt A i).frm≤pl (gt A i).til:=by
 cases hg:(gt A i).gap with
 | false=>rw [h.pt i hi hg]; exact Nat.le_refl _
 | true=>exact Nat.le_of_lt (h.lt i hi hg)
theorem Turns.mono (h:Turns pl A) {i:Nat}:∀ (d:Nat),i+d+1 < A.length→pl (gt A i).til≤pl (gt A (i+d+1)).frm
 | 0,hd=>by rw [h.adj i hd]; exact Nat.le_refl _
 | d+1,hd=>by
  have h1:=Turns.mono h (i:=i) d (by omega)
  have h2:=h.le1 (by omega:i+d+1 < A.length)
  have h3:=h.adj (i+d+1) hd
  rw [show i+(d+1)+1=i+d+1+1 by omega,h3]
  omega
theorem Turns.mono' (h:Turns pl A) {i j:Nat} (hij:i < j) (hj:j < A.length):pl (gt A i).til≤pl (gt A j).frm:=by
 have:=h.mono (i:=i) (j - i - 1) (by omega)
 rwa [show i+(j - i - 1)+1=j by omega] at this
variable (eqf:α→α→Bool) (same:α→α→GR→Bool) (red:α→GR→α)
def lst (out:List (U α)):U α:=gt out (out.length - 1)
theorem jx (out:List (U α)) (x:U α):lst (out++[x])=x:=by
 unfold lst
 rw [List.length_append,List.length_singleton,Nat.add_sub_cancel,rF]
theorem lst_set {out:List (U α)} (h:0 < out.length) (x:U α):lst (out.set (out.length - 1) x)=x:=by
 unfold lst
 rw [List.length_set]
 exact sV (by omega)
theorem jp {L out:List (U α)} {x:Nat}:tD L out x=true↔0 < out.length∧(lst out).iv.hi=(gt L x).iv.lo∧(lst out).iv.lo≠(lst out).iv.hi:=by
 unfold tD lst aM
 simp only [Bool.and_eq_true,decide_eq_true_eq,Bool.not_eq_true',decide_eq_false_iff_not,ne_eq]
 constructor
 · rintro ⟨⟨h1,h2⟩,h3⟩; exact ⟨by omega,h2,h3⟩
 · rintro ⟨h1,h2,h3⟩; exact ⟨⟨by omega,h2⟩,h3⟩
theorem ir {out:List (U α)} {t:GR}:jm out t=true↔0 < out.length∧(lst out).iv.hi=t∧(lst out).iv.openHi=false:=by
 unfold jm lst
 simp only [Bool.and_eq_true,decide_eq_true_eq,Bool.not_eq_true']
 constructor
 · rintro ⟨⟨h1,h2⟩,h3⟩; exact ⟨by omega,h2,h3⟩
 · rintro ⟨h1,h2,h3⟩; exact ⟨⟨by omega,h2⟩,h3⟩
def InvE (pl:GR→Nat) (A:List (At α)) (out:List (U α)) (i:Nat):Prop :=
 ((0 < i∧(gt A (i - 1)).has=true)→0 < out.length∧(lst out).iv.hi=(gt A (i - 1)).til∧(lst out).iv.openHi=true∧pl (lst out).iv.lo < pl (lst out).iv.hi∧(lst out).f=(gt A (i - 1)).f) ∧
 (¬ (0 < i∧(gt A (i - 1)).has=true)→out.length=0∨(0 < i∧pl (lst out).iv.hi≤pl (gt A (i - 1)).frm))
def mgd (A:List (At α)) (i:Nat):Prop:=(gt A i).has=true∧0 < i∧(gt A (i - 1)).has=true∧same (gt A (i - 1)).f (gt A i).f (gt A i).frm=true
def lft (A:List (At α)) (i:Nat):Prop:=i+1 < A.length∧(gt A (i+1)).has=true∧same (gt A (i+1)).f (gt A i).f (gt A i).frm=true
def InvO (pl:GR→Nat) (A:List (At α)) (out:List (U α)) (i:Nat):Prop :=
 (mgd same A i→0 < out.length∧(lst out).iv.hi=(gt A i).frm∧(lst out).iv.openHi=false∧pl (lst out).iv.lo < pl (lst out).iv.hi∧(lst out).f=(gt A (i - 1)).f) ∧
 (¬ mgd same A i→((gt A i).has=false∨lft same A i)→InvE pl A out i) ∧
 (¬ mgd same A i→(gt A i).has=true→¬ lft same A i→0 < out.length∧(lst out).iv.lo=(gt A i).frm∧(lst out).iv.hi=(gt A i).frm∧(lst out).iv.openHi=false∧(lst out).f=red (gt A i).f (gt A i).frm)
variable {eqf same red}
theorem InvE.le (hA:Turns pl A) {out:List (U α)} {i:Nat} (hi:i < A.length) (h:InvE pl A out i):out.length=0∨pl (lst out).iv.hi≤pl (gt A i).frm:=by
 by_cases c:0 < i∧(gt A (i - 1)).has=true
 · have e:=hA.adj (i - 1) (by omega)
   rw [show i - 1+1=i by omega] at e
   rw [(h.1 c).2.1,e]; exact .inr (Nat.le_refl _)
 · rcases h.2 c with h1 | ⟨h0,h1⟩
   · exact .inl h1
   · have h2:=hA.mono' (by omega:i - 1 < i) hi
     have h3:=hA.le1 (by omega:i - 1 < A.length)
     exact .inr (by omega)
theorem InvO.le (hA:Turns pl A) {out:List (U α)} {i:Nat} (hi:i < A.length) (h:InvO same red pl A out i):out.length=0∨pl (lst out).iv.hi≤pl (gt A i).frm:=by
 by_cases m:mgd same A i
 · rw [(h.1 m).2.1]; exact .inr (Nat.le_refl _)
 · by_cases c:(gt A i).has=false∨lft same A i
   · exact (h.2.1 m c).le hA hi
   · have c1:(gt A i).has=true:=by cases hh:(gt A i).has with
      | true=>rfl
      | false=>exact absurd (.inl hh) c
     rw [(h.2.2 m c1 fun h=>c (.inr h)).2.2.1]; exact .inr (Nat.le_refl _)
end
end Go.Sx
namespace Go.Sx
theorem vv {n i:Nat} (h:i < n):gt (List.range n) i=i:=by
 rw [gF (by simpa using h)]; exact List.getElem_range _
theorem foldl_cons {α β:Type} (g:α→β):∀ (l:List α) (o:List β),l.foldl (fun o i=>g i::o) o=(l.map g).reverse++o
 | [],o=>rfl
 | x::l,o=>by rw [List.foldl_cons,foldl_cons g l]; simp
end Go.Sx
namespace Go.Sx
open Go Go.RowKit Go.Proofs
set_option maxRecDepth 100000
set_option maxHeartbeats 40000000
attribute [local irreducible] Code.wp wpList Rd Step ObS Ent
def aR (f:Ln):Qd×Qd :=
 ((aP f.x0 f.x1),(aP f.y0 f.y1))
theorem gC (f:Ln) (k:Nat) (hk:k≤40) (zf:SzN k f) (w0:World):Calls Tryz.prog 348 #[(vN f)] w0 (dE w0 (.tuple #[(vD ((aR f).1)),(vD ((aR f).2))]) (SzD k ((aR f).1)∧SzD k ((aR f).2))):=by
 refine enter (N:=14) (args:=[(vN f)]) Tryz.func348 rfl rfl ?_; intro ac h
 have s1:=ap ((cO f.x0 f.x1 k og zf.1 zf.2.1) w0)
 have s2:=ap ((cO f.y0 f.y1 k og zf.2.2.1 zf.2.2.2) w0)
 refine gz h <| (xb) fun b1=>(xa) fun b2=>(xa) fun b3=>(dr1 (H:=[⟨.blk b3 (cD oD) 72,[(11,.con (.blk b3 (cD (aP f.y0 f.y1)) 72))]⟩,⟨.blk b2 (cD oD) 72,[(10,.con (.blk b2 (cD (aP f.x0 f.x1)) 72))]⟩,⟨_,[]⟩]) (hob:=(oK (cO f.x0 f.x1 k og zf.1 zf.2.1)) <| (oK (cO f.y0 f.y1 k og zf.2.2.1 zf.2.2.2)) <| oE)) <| (W) ?_; clear h ac; intro ac wo h
 exact ret h rfl (.cell (v:=(vD (aP f.x0 f.x1))) rfl (i:=1) rfl Tryz.isAgg72 Tryz.sizeOf72 rfl rfl rfl (.cell (v:=(vD (aP f.y0 f.y1))) rfl (i:=0) rfl Tryz.isAgg72 Tryz.sizeOf72 rfl rfl rfl .nil)) rfl (h.retP (by unfold aR; rfl) (by unfold aR; exact ⟨s1,s2⟩))
end Go.Sx
