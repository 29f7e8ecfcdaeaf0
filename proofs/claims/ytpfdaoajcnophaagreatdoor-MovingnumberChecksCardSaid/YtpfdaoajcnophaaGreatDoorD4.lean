/- A part of the proof of movingnumberChecks. -/
import Derived.Test.YtpfdaoajcnophaaGreatDoorD3
set_option linter.unusedVariables false
set_option linter.unusedSimpArgs false
open Go.Proofs.Tryz renaming runUnderlying245 → uu245, sizeOf3 → zz3, isAgg3 → aa3, call263 → cc263, zeroValue247 → vv247, runUnderlying247 → uu247, call261 → cc261
namespace Go.Sx
open Go Go.RowKit Go.Proofs
set_option maxRecDepth 100000
set_option maxHeartbeats 4000000
attribute [local irreducible] Code.wp wpList Rd Step ObS Ent
def ra (a b:Nat):Int:=if a < b then -1 else if b < a then 1 else 0
theorem vv {a b:Nat} (h:n8 a < n8 b):a < b:=Nat.lt_of_lt_of_le (jY a) (uy.1 h)
theorem top_lt {a b k:Nat} (h:a / 256 ^ (k+1)=b / 256 ^ (k+1)) (hd:a / 256 ^ k % 256 < b / 256 ^ k % 256):a < b:=by
 have e1:a / 256 ^ k / 256=b / 256 ^ k / 256:=by rw [Nat.div_div_eq_div_mul,Nat.div_div_eq_div_mul,← p8s,h]
 have h1:=Nat.div_add_mod (a / 256 ^ k) 256; have h2:=Nat.div_add_mod (b / 256 ^ k) 256
 rw [e1] at h1
 refine Nat.lt_of_not_le fun hle=>?_
 have:=Nat.div_le_div_right (c:=256 ^ k) hle
 omega
theorem top_eq {a b k:Nat} (h:a / 256 ^ (k+1)=b / 256 ^ (k+1)) (hd:a / 256 ^ k % 256=b / 256 ^ k % 256):a / 256 ^ k=b / 256 ^ k:=by
 have e1:a / 256 ^ k / 256=b / 256 ^ k / 256:=by rw [Nat.div_div_eq_div_mul,Nat.div_div_eq_div_mul,← p8s,h]
 omega
theorem lm (a b:Nat) (av bv:Value) (ha:n8 a≤1073741824) (hb:n8 b≤1073741824) (w0:World) (hav:View w0 av (d8 a)) (hbv:View w0 bv (d8 b)):Calls Tryz.prog 303 #[av,bv] w0 (dh w0 (.int .i64 (ra a b)) True):=by
 refine enter (N:=41) (args:=[av,bv]) Tryz.func303 rfl rfl ?_; intro ac h
 haveI:On:=⟨trivial⟩
 have hLa:=eY (n8 a) a
 have hLb:=eY (n8 b) b
 unfold d8 at hav hbv
 refine gz h <| (ai) ?_ ?_ <;> clear h ac <;> intro ac wo h hc
 ·
  rw [hLa,hLb] at hc
  have hne:n8 a≠n8 b:=by have:=bne_iff_ne.1 hc; omega
  refine gz h <| (ai) ?_ ?_ <;> clear h ac wo <;> intro ac wo h hc1
  · rw [hLa,hLb] at hc1
    have hd:ra a b=-1:=by unfold ra; rw [if_pos (vv (by have:=of_decide_eq_true hc1; omega))]
    rw [hd]
    refine gz h <| (W) ?_; clear h ac wo; intro ac wo h
    exact (rt h) (h.retP rfl trivial)
  · rw [hLa,hLb] at hc1
    have hlt:=vv (a:=b) (b:=a) (by have:=of_decide_eq_false hc1; omega)
    have hd:ra a b=1:=by unfold ra; rw [if_neg (by omega),if_pos hlt]
    rw [hd]
    refine gz h <| (W) ?_; clear h ac wo; intro ac wo h
    exact (rt h) (h.retP rfl trivial)
 rw [hLa,hLb] at hc
 have heq:n8 a=n8 b:=by
  have:((n8 a:Nat):Int)=((n8 b:Nat):Int):=by simpa using hc
  omega
 refine gz h <| (W) ?_; clear h ac wo; intro ac wo h
 rw [hLa] at h
 refine gz h <| (xo (hs:=by exact subN rfl (by omega))) <| (W) ?_; clear h ac wo; intro ac wo h
 refine wp_loop_ghost (fun n_ a_ w_=>∃ (k:Nat),(n8 a - k < n_)∧(k≤n8 a)∧(a / 256 ^ (n8 a - k)=b / 256 ^ (n8 a - k))∧St w0 41 [(0,av),(1,bv),(5,.int .i64 ((n8 a:Int) - 1 - (k:Int)))] [] a_ w_) (n8 a+1) ⟨0,by omega,by omega,by rw [Nat.sub_zero,Nat.div_eq_of_lt (jY a),heq,Nat.div_eq_of_lt (jY b)],by rw [show ((n8 a:Int) - 1 - ((0:Nat):Int))=(n8 a:Int) - 1 by omega]; exact h.re []⟩ ?_
 clear h ac wo; rintro n1 ac wo ⟨k,hm1,hk,htop,h⟩
 obtain ⟨m1,rfl⟩:∃ m,n1=m+1:=⟨n1 - 1,by omega⟩
 refine gz h <| (ai) ?_ ?_ <;> clear h ac wo <;> intro ac wo h hc2
 ·
  have hlt:k < n8 a:=by have:=of_decide_eq_true hc2; omega
  obtain ⟨i,hi⟩:∃ i,n8 a - 1 - k=i:=⟨_,rfl⟩
  have hia:i < n8 a:=by omega
  have hib:i < n8 b:=by omega
  rw [show n8 a - k=i+1 by omega] at htop
  rw [show ((n8 a:Int) - 1 - (k:Int))=(i:Int) by omega] at h
  have g1:=nG (v:=a) hia
  have g2:=nG (v:=b) hib
  refine gz h <| (dr0 (hob:=oE)) <| (ai) ?_ ?_ <;> clear h ac wo <;> intro ac wo h hc3
  · rw [g1,g2] at hc3
    have hd:ra a b=-1:=by unfold ra; rw [if_pos (top_lt htop (by have:=of_decide_eq_true hc3; omega))]
    rw [hd]
    refine gz h <| (W) ?_; clear h ac wo; intro ac wo h
    exact (rt h) (h.retP rfl trivial)
  · rw [g1,g2] at hc3
    have h3:=of_decide_eq_false hc3
    refine gz h <| (dr0 (hob:=oE)) <| (ai) ?_ ?_ <;> clear h ac wo <;> intro ac wo h hc4
    · rw [g1,g2] at hc4
      have hlt2:=top_lt htop.symm (by have:=of_decide_eq_true hc4; omega)
      have hd:ra a b=1:=by unfold ra; rw [if_neg (by omega),if_pos hlt2]
      rw [hd]
      refine gz h <| (W) ?_; clear h ac wo; intro ac wo h
      exact (rt h) (h.retP rfl trivial)
    · rw [g1,g2] at hc4
      have h4:=of_decide_eq_false hc4
      refine gz h <| (xo (hs:=by exact subN rfl (by omega))) <| (W) ?_; clear h ac wo; intro ac wo h
      exact az ⟨m1,by omega,k+1,by omega,by omega,by rw [show n8 a - (k+1)=i by omega]; exact top_eq htop (by omega),by rw [show ((n8 a:Int) - 1 - ((k+1:Nat):Int))=(i:Int) - 1 by omega]; exact h.re []⟩
 ·
  obtain rfl:k=n8 a:=by have:=of_decide_eq_false hc2; omega
  rw [Nat.sub_self,Nat.pow_zero,Nat.div_one,Nat.div_one] at htop
  have hd:ra a b=0:=by unfold ra; rw [if_neg (by omega),if_neg (by omega)]
  rw [hd]
  refine gz h <| (W) ?_; clear h ac wo; intro ac wo h
  exact (rt h) (h.retP rfl trivial)
def i7 (a:Nat):Nat×Bool:=if n8 a≤7 then (a,true) else (0,false)
theorem top_one {a k:Nat}:a / 256 ^ (k+1)*256+a / 256 ^ k % 256=a / 256 ^ k:=by
 rw [p8s,← Nat.div_div_eq_div_mul]; omega
theorem kw (a:Nat) (av:Value) (ha:n8 a≤1073741824) (w0:World) (hav:View w0 av (d8 a)):Calls Tryz.prog 301 #[av] w0 (dh w0 (.tuple #[iN (i7 a).1,.bool (i7 a).2]) True):=by
 refine enter (N:=24) (args:=[av]) Tryz.func301 rfl rfl ?_; intro ac h
 haveI:On:=⟨trivial⟩
 have hLa:=eY (n8 a) a
 unfold d8 at hav
 refine gz h <| (ai) ?_ ?_ <;> clear h ac <;> intro ac wo h hc
 ·
  rw [hLa] at hc
  have hd:i7 a=(0,false):=by unfold i7; rw [if_neg (by have:=of_decide_eq_true hc; omega)]
  rw [hd]
  refine gz h <| (W) ?_; clear h ac wo; intro ac wo h
  exact (rt h) (h.retP rfl trivial)
 rw [hLa] at hc
 have h7:n8 a≤7:=by have:=of_decide_eq_false hc; omega
 have hd:i7 a=(a,true):=by unfold i7; rw [if_pos h7]
 have ha7:a < 72057594037927936:=Nat.lt_of_lt_of_le (jY a) (Nat.pow_le_pow_right (show 0 < 256 by decide) h7)
 rw [hd]
 refine gz h <| (W) ?_; clear h ac wo; intro ac wo h
 rw [hLa] at h
 refine gz h <| (xo (hs:=by exact subN rfl (by omega))) <| (W) ?_; clear h ac wo; intro ac wo h
 refine wp_loop_ghost (fun n_ a_ w_=>∃ (k:Nat),(n8 a - k < n_)∧(k≤n8 a)∧St w0 24 [(0,av),(4,iN (a / 256 ^ (n8 a - k))),(5,.int .i64 ((n8 a:Int) - 1 - (k:Int)))] [] a_ w_) (n8 a+1) ⟨0,by omega,by omega,by rw [Nat.sub_zero,Nat.div_eq_of_lt (jY a),show ((n8 a:Int) - 1 - ((0:Nat):Int))=(n8 a:Int) - 1 by omega]; exact h.re []⟩ ?_
 clear h ac wo; rintro n1 ac wo ⟨k,hm1,hk,h⟩
 obtain ⟨m1,rfl⟩:∃ m,n1=m+1:=⟨n1 - 1,by omega⟩
 refine gz h <| (ai) ?_ ?_ <;> clear h ac wo <;> intro ac wo h hc2
 ·
  have hlt:k < n8 a:=by have:=of_decide_eq_true hc2; omega
  obtain ⟨i,hi⟩:∃ i,n8 a - 1 - k=i:=⟨_,rfl⟩
  have hia:i < n8 a:=by omega
  rw [show n8 a - k=i+1 by omega,show ((n8 a:Int) - 1 - (k:Int))=(i:Int) by omega] at h
  have t1:=top_one (a:=a) (k:=i)
  have hle:a / 256 ^ i≤a:=Nat.div_le_self _ _
  obtain ⟨u,hu⟩:∃ u,a / 256 ^ (i+1)=u:=⟨_,rfl⟩
  rw [hu] at h t1
  refine gz h <| (xo (hs:=by exact mulN rfl rfl (by omega))) <| (W) ?_; clear h ac wo; intro ac wo h
  rw [nG hia,show ((u:Nat):Int)*256=((u*256:Nat):Int) by omega] at h
  refine gz h <| (W) ?_; clear h ac wo; intro ac wo h
  rw [t1] at h
  refine gz h <| (xo (hs:=by exact subN rfl (by omega))) <| (W) ?_; clear h ac wo; intro ac wo h
  exact az ⟨m1,by omega,k+1,by omega,by omega,by rw [show n8 a - (k+1)=i by omega,show ((n8 a:Int) - 1 - ((k+1:Nat):Int))=(i:Int) - 1 by omega]; exact h.re []⟩
 ·
  obtain rfl:k=n8 a:=by have:=of_decide_eq_false hc2; omega
  rw [Nat.sub_self,Nat.pow_zero,Nat.div_one] at h
  refine gz h <| (W) ?_; clear h ac wo; intro ac wo h
  exact (rt h) (h.retP rfl trivial)
theorem tq (n:Nat) (hn:n≤9223372036854775807) (w0:World):Calls Tryz.prog 302 #[iN n] w0 (RetR w0 3 (d8 n) True):=by
 refine enter (N:=14) (args:=[iN n]) Tryz.func302 rfl rfl ?_; intro ac h
 haveI:On:=⟨trivial⟩
 have h8:n8 n≤8:=k8.2 (Nat.lt_of_le_of_lt hn (by decide))
 refine gz h <| (W) ?_; clear h ac; intro ac wo h
 replace h:=h.nilRow (α:=Int) 3
 refine wp_loop_ghost (fun n_ a_ w_=>∃ (i:Nat) (sv:Value),(n8 n - i < n_)∧(i≤n8 n)∧St w0 14 [(0,iN (n / 256 ^ i)),(3,sv)] [.row (α:=Int) 3 sv (e8 i n)] a_ w_) (n8 n+1) ⟨0,_,by omega,by omega,by rw [Nat.pow_zero,Nat.div_one]; exact h.re [0]⟩ ?_
 clear h ac wo; rintro n1 ac wo ⟨i,sv,hm1,hi,h⟩
 obtain ⟨m1,rfl⟩:∃ m,n1=m+1:=⟨n1 - 1,by omega⟩
 have hle:n / 256 ^ i≤n:=Nat.div_le_self _ _
 have hps:n / 256 ^ i / 256=n / 256 ^ (i+1):=by rw [p8s,Nat.div_div_eq_div_mul]
 have hiff:0 < n / 256 ^ i↔i < n8 n:=by rw [Nat.div_pos_iff,uy]; have:=p8 i; omega
 obtain ⟨u,hu⟩:∃ u,n / 256 ^ i=u:=⟨_,rfl⟩
 rw [hu] at h hle hps hiff
 refine gz h <| (ai) ?_ ?_ <;> clear h ac wo <;> intro ac wo h hc
 ·
  have hlt:i < n8 n:=hiff.1 (by have:=of_decide_eq_true hc; omega)
  refine gz h <| (xo (hs:=by exact rem8 (m:=u) rfl)) <| (W) ?_; clear h ac wo; intro ac wo h
  refine nw h (bT (α:=Int) (xs:=[.tmp 8]) (vs:=[.int .i64 ((u % 256:Nat):Int)]) [((u % 256:Nat):Int)] f5 rfl rfl rfl (by decide)) rfl ?_; clear h ac wo; intro s1 ac wo _ h
  refine on2 h 1 0 rfl rfl (eA (xs:=e8 i n) (ys:=[((u % 256:Nat):Int)]) f5 (fun w hs=>(row_view hs 0 rfl)) rfl rfl (by rw [eY]; show _+1≤_; omega)) rfl ?_; clear h ac wo; intro s2 ac wo _ h
  rw [← hu,← jF,hu] at h
  refine gz h <| (xo (hs:=by exact quo8 (m:=u) rfl (by omega))) <| (W) ?_; clear h ac wo; intro ac wo h
  rw [hps] at h
  exact az ⟨m1,by omega,i+1,s2,by omega,by omega,h.re [0]⟩
 ·
  have he:i=n8 n:=by
   have:=of_decide_eq_false hc
   have h0:u=0:=by omega
   rw [h0] at hiff; omega
  subst he
  refine gz h <| (W) ?_; clear h ac wo; intro ac wo h
  exact (rt h) (h.retR 0 rfl trivial)
end Go.Sx
namespace Go.Sx
open Go Go.RowKit Go.Proofs
set_option maxRecDepth 100000
set_option maxHeartbeats 8000000
attribute [local irreducible] Code.wp wpList Rd Step ObS Ent
def tsnd:Value→Value | .tuple a=>a.getD 1 undef | _=>undef
def Ret2 (w:World) (q r:Nat):Ending→World→Prop:=Ret w (fun v=>v=.tuple #[kh v,tsnd v]∧SL (kh v) (n8 q)∧SL (tsnd v) (n8 r)) (fun v=>[.row (α:=Int) 3 (kh v) (d8 q),.row (α:=Int) 3 (tsnd v) (d8 r)])
section
variable {w0:World} {N:Nat} {F:List (Nat×Value)} {L:List Asn} {a:Act} {w:World}
theorem St.ret2 {qv rv:Value} {q r:Nat} (h:St w0 N F [.row (α:=Int) 3 qv (d8 q),.row (α:=Int) 3 rv (d8 r)] a w):Ret2 w0 q r (.returned (.tuple #[qv,rv])) w:=by
 have h1:=h.row_sl 0 rfl
 have h2:=h.row_sl 1 rfl
 rw [qi] at h1 h2
 exact h.retA (φ:=fun v=>v=.tuple #[kh v,tsnd v]∧SL (kh v) (n8 q)∧SL (tsnd v) (n8 r)) (A:=fun v=>[.row (α:=Int) 3 (kh v) (d8 q),.row (α:=Int) 3 (tsnd v) (d8 r)]) (v:=.tuple #[qv,rv]) ⟨rfl,h1,h2⟩ h
def Src (w0:World) (sv:Value) (xs:List Int) (A:Asn):Prop:=(A=.emp∧View w0 sv xs)∨A=.row (α:=Int) 3 sv xs
theorem ik {sv:Value} {xs:List Int} {A:Asn} (hs:Src w0 sv xs A) (hb:Below w0.heap.size w0 w) (h:∃ U,Sep w0.heap.size w L U) (i:Nat) (hi:L[i]?=some A):View w sv xs:=by
 rcases hs with ⟨_,hv⟩ | rfl
 · exact hv.below hb
 · exact row_view h i hi
end
instance cf301:Cf Tryz.prog 301:=⟨Tryz.call301⟩
instance cf303:Cf Tryz.prog 303:=⟨Tryz.call303⟩
theorem quoN {w0:World} {F:List (Nat×Value)} {x y:Operand} {t tt:TypeId} {m n:Nat} (hx:ev F x=some (iN m)) (hy:ev F y=some (iN n)) (h0:0 < n) (hm:m≤9223372036854775807):Rd Tryz.prog w0 F [] (.binOp .quo t x y tt) (iN (m / n)) :=
 oV hx hy (by omega) (by
  have:=Nat.div_le_self m n
  rw [← Int.ofNat_tdiv]
  show IntKind.i64.wrap ((m / n:Nat):Int)=((m / n:Nat):Int)
  generalize m / n=z at *
  rw [IntKind.wrap_i64]; omega)
theorem remN {w0:World} {F:List (Nat×Value)} {x y:Operand} {t tt:TypeId} {m n:Nat} (hx:ev F x=some (iN m)) (hy:ev F y=some (iN n)) (h0:0 < n):Rd Tryz.prog w0 F [] (.binOp .rem t x y tt) (iN (m % n)) :=
 ru hx hy (by omega) (by rw [Int.ofNat_tmod])
theorem sI {a:Nat} (h:n8 a≤7):i7 a=(a,true):=by unfold i7; rw [if_pos h]
theorem m6 {a:Nat} (h:¬ n8 a≤7):i7 a=(0,false):=by unfold i7; rw [if_neg h]
theorem zE (a b:Nat) (av bv:Value) (ha:n8 a≤7) (hb:n8 b≤7) (b0:0 < b) (w0:World) (hav:View w0 av (d8 a)) (hbv:View w0 bv (d8 b)):Calls Tryz.prog 263 #[av,bv] w0 (Ret2 w0 (a / b) (a % b)):=by
 have c1:=fun (w:World) (hB:Below w0.heap.size w0 w)=>kw a av (by omega) w (hav.below hB)
 have c2:=fun (w:World) (hB:Below w0.heap.size w0 w)=>kw b bv (by omega) w (hbv.below hB)
 rw [sI ha] at c1
 rw [sI hb] at c2
 have ha7:a < 72057594037927936:=Nat.lt_of_lt_of_le (jY a) (Nat.pow_le_pow_right (show 0 < 256 by decide) ha)
 have hq:=Nat.div_le_self a b
 have hr:=Nat.mod_le a b
 refine enter (N:=105) (args:=[av,bv]) Tryz.func263 rfl rfl ?_; intro ac h
 haveI:On:=⟨trivial⟩
 refine gz h <| (xc (ct:=by exact fun w_ hB_ hS_=>c1 w_ hB_)) <| (xc (ct:=by exact fun w_ hB_ hS_=>c2 w_ hB_)) <| (ai) ?_ ?_ <;> clear h ac <;> intro ac wo h hc
 ·
  refine gz h <| (W) ?_; clear h ac wo; intro ac wo h
  replace h:=h.emps 2
  refine fU mixed [dv (iN a),dv (iN b),dv (iN (a / b)),⟨.nd (.con True),[0]⟩,dv (iN a),dv (iN b),dv (iN (a % b)),⟨.nd (.con True),[1]⟩,⟨.nd (.two 8 3 fun a b=>a=b),[]⟩,⟨.nd (.two 9 7 fun a b=>a=b),[]⟩]
   [⟨.emp,[(3,.one 3 fun x=>.row (α:=Int) 3 x (d8 (a / b)))]⟩,⟨.emp,[(7,.one 7 fun x=>.row (α:=Int) 3 x (d8 (a % b)))]⟩] h rfl (by kernel_rfl)
   ⟨oA obA,oA obA,oA (fun _=>bk (quoN rfl rfl b0 (by omega))),
    fun ξ _=>my (B:=fun x=>[.row (α:=Int) 3 x (d8 (a / b))]) [.emp] rfl (fun v _=>by simp only [dJ,bt] <;> rfl) (fun _ _=>trivial) (jh (wG (cz Tryz.call302 rfl) (fun w_ hB_ hS_=>tq (a / b) (by omega) w_))),
    oA obA,oA obA,oA (fun _=>bk (remN rfl rfl b0)),
    fun ξ _=>my (B:=fun x=>[.row (α:=Int) 3 x (d8 (a % b))]) [.emp] rfl (fun v _=>by simp only [dJ,bt] <;> rfl) (fun _ _=>trivial) (jh (wG (cz Tryz.call302 rfl) (fun w_ hB_ hS_=>tq (a % b) (by omega) w_))),
    fun _ _=>rI (j:=3) (by decide) rfl,fun _ _=>rI (j:=7) (by decide) rfl,trivial⟩ ?_
  clear h ac wo; intro ξ ac wo hφ h
  replace h:St w0 105 [(4,ξ 8),(5,ξ 9)] [.row (α:=Int) 3 (ξ 3) (d8 (a / b)),.row (α:=Int) 3 (ξ 7) (d8 (a % b))] ac wo:=h.sub ⟨rfl,rfl,trivial⟩
  rw [show ξ 8=ξ 3 from hφ 8,show ξ 9=ξ 7 from hφ 9] at h
  refine gz h <| (W) ?_; clear h ac wo; intro ac wo h
  exact nO (vs:=[ξ 3,ξ 7]) h rfl (.tmp rfl (.tmp rfl .nil)) rfl h.ret2
 ·
  exfalso
  rw [show decide (((b:Nat):Int)>0)=true from decide_eq_true (by omega)] at hc
  cases hc
theorem zF (a b:Nat) (av bv:Value) (ha:n8 a≤1073741824) (hb:n8 b≤1073741824) (hs:¬ (n8 a≤7∧n8 b≤7)) (hl:a < b) (w0:World) (hav:View w0 av (d8 a)) (hbv:View w0 bv (d8 b)):Calls Tryz.prog 263 #[av,bv] w0 (dh w0 (.tuple #[.slice none 0 0,av]) True):=by
 have c1:=fun (w:World) (hB:Below w0.heap.size w0 w)=>kw a av (by omega) w (hav.below hB)
 have c2:=fun (w:World) (hB:Below w0.heap.size w0 w)=>kw b bv (by omega) w (hbv.below hB)
 have c3:=fun (w:World) (hB:Below w0.heap.size w0 w)=>lm a b av bv ha hb w (hav.below hB) (hbv.below hB)
 have e3:ra a b=-1:=by unfold ra; rw [if_pos hl]
 rw [e3] at c3
 have hb2:((i7 a).2 && (i7 b).2)=false:=by
  by_cases h1:n8 a≤7
  · rw [m6 (a:=b) (fun h2=>hs ⟨h1,h2⟩)]; exact Bool.and_false _
  · rw [m6 h1]; rfl
 generalize i7 a=x at c1 hb2
 generalize i7 b=y at c2 hb2
 obtain ⟨x1,x2⟩:=x
 obtain ⟨y1,y2⟩:=y
 refine enter (N:=105) (args:=[av,bv]) Tryz.func263 rfl rfl ?_; intro ac h
 haveI:On:=⟨trivial⟩
 refine gz h <| (xc (ct:=by exact fun w_ hB_ hS_=>c1 w_ hB_)) <| (xc (ct:=by exact fun w_ hB_ hS_=>c2 w_ hB_)) <| (ai) ?_ ?_ <;> clear h ac <;> intro ac wo h hc
 ·
  exfalso
  have hc':=(Bool.and_eq_true_iff.mp hc).1
  rw [show (x2 && y2)=false from hb2] at hc'; cases hc'
 refine gz h <| (xc (ct:=by exact fun w_ hB_ hS_=>c3 w_ hB_)) <| (ai) ?_ ?_ <;> clear h ac wo <;> intro ac wo h hc2
 · refine gz h <| (W) ?_; clear h ac wo; intro ac wo h
   exact (rt h) (h.retP rfl trivial)
 · cases hc2
end Go.Sx
namespace Go.Sx
open Go Go.RowKit Go.Proofs
set_option maxRecDepth 100000
set_option maxHeartbeats 8000000
attribute [local irreducible] Code.wp wpList Rd Step ObS Ent
theorem lV {a b:Nat} (h:a≤b):n8 a≤n8 b:=k8.2 (Nat.lt_of_le_of_lt h (jY b))
theorem zZ {a b:Nat}:decide (ra a b≥0)=decide (b≤a):=by unfold ra; split <;> (try split) <;> simp <;> omega
theorem cmp8_le {a b:Nat}:decide (ra a b≤0)=decide (a≤b):=by unfold ra; split <;> (try split) <;> simp <;> omega
theorem zG (a b:Nat) (av bv:Value) (ha:n8 a≤1000000000) (hb:n8 b≤1000000000) (hs:¬ (n8 a≤7∧n8 b≤7)) (hl:b≤a) (b0:0 < b) (w0:World) (hav:View w0 av (d8 a)) (hbv:View w0 bv (d8 b)):Calls Tryz.prog 263 #[av,bv] w0 (Ret2 w0 (a / b) (a % b)):=by
 have c1:=fun (w:World) (hB:Below w0.heap.size w0 w)=>kw a av (by omega) w (hav.below hB)
 have c2:=fun (w:World) (hB:Below w0.heap.size w0 w)=>kw b bv (by omega) w (hbv.below hB)
 have c3:=fun (w:World) (hB:Below w0.heap.size w0 w)=>lm a b av bv (by omega) (by omega) w (hav.below hB) (hbv.below hB)
 have e3:¬ ra a b < 0:=by unfold ra; rw [if_neg (by omega)]; split <;> decide
 have hb2:((i7 a).2 && (i7 b).2)=false:=by
  by_cases h1:n8 a≤7
  · rw [m6 (a:=b) (fun h2=>hs ⟨h1,h2⟩)]; exact Bool.and_false _
  · rw [m6 h1]; rfl
 generalize i7 a=x at c1 hb2
 generalize i7 b=y at c2 hb2
 obtain ⟨x1,x2⟩:=x
 obtain ⟨y1,y2⟩:=y
 have hLa:=eY (n8 a) a
 have hav2:=hav
 unfold d8 at hav2
 refine enter (N:=105) (args:=[av,bv]) Tryz.func263 rfl rfl ?_; intro ac h
 haveI:On:=⟨trivial⟩
 refine gz h <| (xc (ct:=by exact fun w_ hB_ hS_=>c1 w_ hB_)) <| (xc (ct:=by exact fun w_ hB_ hS_=>c2 w_ hB_)) <| (ai) ?_ ?_ <;> clear h ac <;> intro ac wo h hc
 ·
  exfalso
  have hc':=(Bool.and_eq_true_iff.mp hc).1
  rw [show (x2 && y2)=false from hb2] at hc'; cases hc'
 refine gz h <| (xc (ct:=by exact fun w_ hB_ hS_=>c3 w_ hB_)) <| (ai) ?_ ?_ <;> clear h ac wo <;> intro ac wo h hc2
 · exact absurd (of_decide_eq_true hc2) e3
 refine gz h <| (W) ?_; clear h ac wo; intro ac wo h
 rw [hLa] at h
 refine nw h (mu (n:=n8 a) ((0:Int)) rfl f5 rfl rfl rfl (by omega) (by omega)) rfl ?_; clear h ac wo; intro qv ac wo nnq h
 rw [rep8] at h
 refine gz h <| (W) ?_; clear h ac wo; intro ac wo h
 rw [hLa] at h
 refine gz h <| (xo (hs:=by exact subN rfl (by omega))) <| (W) ?_; clear h ac wo; intro ac wo h
 replace h:=h.nilRow (α:=Int) 3
 refine wp_loop_ghost (fun n_ a_ w_=>∃ (k:Nat) (rv:Value),(n8 a - k < n_)∧(k≤n8 a)∧St w0 105 [(0,av),(1,bv),(4,qv),(5,rv),(10,.int .i64 ((n8 a:Int) - 1 - (k:Int)))] [.row (α:=Int) 3 rv (d8 (a / 256 ^ (n8 a - k) % b)),.row (α:=Int) 3 qv (e8 (n8 a) (a / 256 ^ (n8 a - k) / b*256 ^ (n8 a - k)))] a_ w_) (n8 a+1) ⟨0,_,by omega,by omega,by
  rw [Nat.sub_zero,Nat.div_eq_of_lt (jY a),Nat.zero_mod,Nat.zero_div,Nat.zero_mul,show ((n8 a:Int) - 1 - ((0:Nat):Int))=(n8 a:Int) - 1 by omega]; exact h.re [0,1]⟩ ?_
 clear h ac wo; rintro n1 ac wo ⟨k,rv,hm1,hk,h⟩
 obtain ⟨m1,rfl⟩:∃ m,n1=m+1:=⟨n1 - 1,by omega⟩
 refine gz h <| (ai) ?_ ?_ <;> clear h ac wo <;> intro ac wo h hc3
 ·
  have hlt:k < n8 a:=by have:=of_decide_eq_true hc3; omega
  obtain ⟨i,hi⟩:∃ i,n8 a - 1 - k=i:=⟨_,rfl⟩
  have hia:i < n8 a:=by omega
  rw [show n8 a - k=i+1 by omega,show ((n8 a:Int) - 1 - (k:Int))=(i:Int) by omega] at h
  have ga:=nG (v:=a) hia
  have hX:=wZ a b i b0
  have hT:=vP a b i b0
  have hnx:=fun g=>next8 a b i g b0
  have dxi:=Nat.mod_lt (a / 256 ^ i) (show 0 < 256 by decide)
  obtain ⟨R,hR⟩:∃ R,a / 256 ^ (i+1) % b=R:=⟨_,rfl⟩
  obtain ⟨x,hx⟩:∃ R,a / 256 ^ i % 256=R:=⟨_,rfl⟩
  obtain ⟨Q,hQ⟩:∃ R,a / 256 ^ (i+1) / b=R:=⟨_,rfl⟩
  rw [hR,hQ] at h
  rw [hR,hx] at hX hT
  rw [hQ] at hT
  rw [hx] at ga dxi
  have hRb:R < b:=by rw [← hR]; exact Nat.mod_lt _ b0
  have nR:=lV (Nat.le_of_lt hRb)
  obtain ⟨X,hXe⟩:∃ X,R*256+x=X:=⟨_,rfl⟩
  rw [hXe] at hX hT
  have nX:n8 X≤n8 R+1:=k8.2 (by rw [← hXe,p8s]; have:=jY R; omega)
  refine gz h <| (W) ?_; clear h ac wo; intro ac wo h
  rw [ga] at h
  refine nw h (bT (α:=Int) (xs:=[.tmp 57]) (vs:=[.int .i64 ((x:Nat):Int)]) [((x:Nat):Int)] f5 rfl rfl rfl (by decide)) rfl ?_; clear h ac wo; intro s1 ac wo _ h
  refine gz h <| (W) ?_; clear h ac wo; intro ac wo h
  refine on2 h 0 0 rfl rfl (eA (xs:=[((x:Nat):Int)]) (ys:=d8 R) f5 (fun w hs=>(row_view hs 0 rfl)) rfl rfl (by rw [qi]; show 1+_≤_; omega)) rfl ?_; clear h ac wo; intro s2 ac wo _ h
  have eXs:([((x:Nat):Int)]++d8 R)=e8 (n8 R+1) X:=by rw [← hXe]; exact cons8 (n8 R) R x dxi
  rw [eXs] at h
  refine gz h <| (xc (ct:=by exact fun w_ hB_ hS_=>mg (n8 R+1) X s2 (k8.1 nX) w_ (row_view hS_ 0 rfl))) <| (W) ?_; clear h ac wo; intro ac wo h
  replace h:=h.rowcut 0 (n8 X) rfl (by rw [eY]; exact nX)
  rw [r5 nX] at h
  generalize nP s2 (n8 X)=r1 at h
  replace h:St w0 105 [(0,av),(1,bv),(4,qv),(5,r1),(10,iN i)] [.row (α:=Int) 3 r1 (d8 (X - 0*b)),.row (α:=Int) 3 qv (e8 (n8 a) (Q*256 ^ (i+1)+0*256 ^ i))] ac wo:=by
   rw [Nat.zero_mul,Nat.sub_zero,Nat.zero_mul,Nat.add_zero]; exact h.re [0,2]
  refine wp_loop_ghost (fun n_ a_ w_=>∃ (g:Nat) (r1:Value),(256 - g < n_)∧(g≤255)∧(g*b≤X)∧St w0 105 [(0,av),(1,bv),(4,qv),(5,r1),(10,iN i)] [.row (α:=Int) 3 r1 (d8 (X - g*b)),.row (α:=Int) 3 qv (e8 (n8 a) (Q*256 ^ (i+1)+g*256 ^ i))] a_ w_) 257 ⟨0,r1,by omega,by omega,by omega,h⟩ ?_
  clear h ac wo r1; rintro n2 ac wo ⟨g,r1,hm2,hg,hgX,h⟩
  obtain ⟨m2,rfl⟩:∃ m,n2=m+1:=⟨n2 - 1,by omega⟩
  have hqg':(e8 (n8 a) (Q*256 ^ (i+1)+g*256 ^ i))[i]?=some ((g:Nat):Int):=by rw [tP hia,tS Q i g (by omega)]
  have hqt':=nG (v:=Q*256 ^ (i+1)+g*256 ^ i) hia
  rw [tS Q i g (by omega)] at hqt'
  obtain ⟨Wq,hWq⟩:∃ W,Q*256 ^ (i+1)+g*256 ^ i=W:=⟨_,rfl⟩
  rw [hWq] at h hqg' hqt'
  have hqg:(e8 (n8 a) Wq)[i]?=some ((g:Nat):Int):=hqg'
  have nnq2:NN qv (e8 (n8 a) Wq).length:=by rw [eY]; exact nnq
  have hLW:=eY (n8 a) Wq
  have nXg0:n8 (X - g*b)≤n8 X:=lV (Nat.sub_le _ _)
  have nXg:n8 (X - g*b)≤1073741824:=by omega
  refine gz h <| (xc (ct:=by exact fun w_ hB_ hS_=>lm (X - g*b) b r1 bv nXg (by omega) w_ (row_view hS_ 0 rfl) (hbv.below hB_))) <| (ai) ?_ ?_ <;> clear h ac wo <;> intro ac wo h hc4
  ·
   rw [zZ,hqt'] at hc4
   obtain ⟨h1,h2⟩:=Bool.and_eq_true_iff.mp hc4
   have h1:=of_decide_eq_true h1
   have h2:g < 255:=by have:=of_decide_eq_true h2; omega
   refine gz h <| (W) ?_; clear h ac wo; intro ac wo h
   replace h:=h.emps 1
   refine wp_loop_ghost (fun n_ a_ w_=>∃ (st:Nat) (pv:Value) (A:Asn),(129 - st < n_)∧(1≤st)∧(st≤128)∧(st*b≤X - g*b)∧Src w0 pv (d8 (st*b)) A∧St w0 105 [(0,av),(1,bv),(4,qv),(5,r1),(10,iN i),(11,iN st),(12,pv)] [A,.row (α:=Int) 3 r1 (d8 (X - g*b)),.row (α:=Int) 3 qv (e8 (n8 a) Wq)] a_ w_) 130 ⟨1,bv,.emp,by omega,by omega,by omega,by omega,by rw [Nat.one_mul]; exact .inl ⟨rfl,hbv⟩,(h.pick [2,0,1] (by decide)).sub ⟨rfl,rfl,rfl,rfl,rfl,rfl,rfl,trivial⟩⟩ ?_
   clear h ac wo; rintro n3 ac wo ⟨st,pv,A,hm3,hst1,hst2,hle,hA,h⟩
   obtain ⟨m3,rfl⟩:∃ m,n3=m+1:=⟨n3 - 1,by omega⟩
   have hgs:g+st < 256:=by
    refine Nat.lt_of_mul_lt_mul_right (a:=b) ?_
    rw [Nat.add_mul]; omega
   have nsb:n8 (st*b)≤n8 X:=lV (by omega)
   refine gz h <| (xo (hs:=by exact mulN rfl rfl (by omega))) <| (W) ?_; clear h ac wo; intro ac wo h
   by_cases h128:2*st≤128
   ·
    have hbt:decide ((2:Int)*((st:Nat):Int)≤128)=true:=decide_eq_true (by omega)
    rw [hbt] at h
    refine gK h rfl (c:=true) (b:=true) rfl rfl rfl ?_
    refine iu (xs:=d8 (st*b+st*b)) h (cz Tryz.call304 rfl) (fun w_ hB_ hS_=>vn (st*b) (st*b) pv pv (by omega) (by omega) w_ (ik hA hB_ hS_ 0 rfl) (ik hA hB_ hS_ 0 rfl)) rfl ?_; clear h ac wo; intro p2 ac wo _ h
    have n2:n8 (st*b+st*b)≤n8 (st*b)+1:=k8.2 (by have:=jY (st*b); rw [p8s]; omega)
    refine gz h <| (W) ?_; clear h ac wo; intro ac wo h
    refine gK h rfl (c:=true) (b:=true) rfl rfl rfl ?_
    refine gz h <| (xc (ct:=by exact fun w_ hB_ hS_=>lm (st*b+st*b) (X - g*b) p2 r1 (by omega) nXg w_ (row_view hS_ 0 rfl) (row_view hS_ 2 rfl))) <| (ai) ?_ ?_ <;> clear h ac wo <;> intro ac wo h hc5
    ·
     have h5:st*b+st*b≤X - g*b:=by
      have h6:decide (ra (st*b+st*b) (X - g*b)≤0)=true:=hc5
      rw [cmp8_le] at h6; exact of_decide_eq_true h6
     refine gz h <| (xo (hs:=by exact mulN rfl rfl (by omega))) <| (W) ?_; clear h ac wo; intro ac wo h
     refine iu (xs:=d8 (st*b+st*b)) h (cz Tryz.call304 rfl) (fun w_ hB_ hS_=>vn (st*b) (st*b) pv pv (by omega) (by omega) w_ (ik hA hB_ hS_ 1 rfl) (ik hA hB_ hS_ 1 rfl)) rfl ?_; clear h ac wo; intro p3 ac wo _ h
     refine gz h <| (W) ?_; clear h ac wo; intro ac wo h
     have e2:st*b+st*b=2*st*b:=by rw [Nat.mul_assoc]; omega
     refine az ⟨m3,by omega,2*st,p3,.row (α:=Int) 3 p3 (d8 (2*st*b)),by omega,by omega,by omega,by omega,.inr rfl,?_⟩
     rw [e2,show (2:Int)*((st:Nat):Int)=((2*st:Nat):Int) by omega] at h
     exact h.re [0,3,4]
    ·
     refine gz h <| (W) ?_; clear h ac wo; intro ac wo h
     replace h:St w0 105 [(0,av),(1,bv),(4,qv),(5,r1),(10,iN i),(11,iN st),(12,pv)] [A,.row (α:=Int) 3 r1 (d8 (X - g*b)),.row (α:=Int) 3 qv (e8 (n8 a) Wq)] ac wo:=h.re [1,2,3]
     replace h:=h.emps 1
     refine fU mixed [dv qv,dv (iN i),dv r1,dv pv,⟨.nd (.con True),[3,1,0]⟩,dv qv,dv (iN i),dv (sel qv (i*1+0)),dw (iN g) [2],dv (iN st),dv (iN (g+st)),⟨.nd (.two 11 4 fun a b=>a=b),[]⟩,dv (sel qv (i*1+0)),dw undef [2]]
      [⟨_,[]⟩,⟨_,[]⟩,⟨.row (α:=Int) 3 qv (e8 (n8 a) Wq),[(13,.con (.row (α:=Int) 3 qv ((e8 (n8 a) Wq).set i ((g+st:Nat):Int))))]⟩,⟨.emp,[(4,.one 4 fun x=>.row (α:=Int) 3 x (d8 (X - g*b - st*b)))]⟩] h rfl (by kernel_rfl)
      ⟨oA obA,oA obA,oA obA,oA obA,
       fun ξ _=>my (B:=fun x=>[.row (α:=Int) 3 x (d8 (X - g*b - st*b)),.row (α:=Int) 3 r1 (d8 (X - g*b)),A]) [.emp,.row (α:=Int) 3 r1 (d8 (X - g*b)),A] rfl (fun v _=>by simp only [dJ,bt] <;> rfl) (fun _ _=>trivial) (s_empR (wG (cz Tryz.call305 rfl) (fun w_ hB_ hS_=>tg (X - g*b) (st*b) r1 pv hle nXg w_ (row_view hS_ 0 rfl) (ik hA hB_ hS_ 1 rfl)))),
       oA obA,oA obA,(fun _ _=>bk (iT uu245 zz3 rfl rfl nnq hia)),(fun _ _=>jB _ rfl rfl (iM (i:=i) (k:=0) aa3 zz3 hqg rfl rfl rfl rfl rfl)),oA obA,(fun _ _=>bk (eV rfl rfl (r:=((g+st:Nat):Int)) (by rw [IntKind.wrap_i64]; omega))),fun _ _=>rI (j:=4) (by decide) rfl,
       (fun _ _=>bk (iT uu245 zz3 rfl rfl nnq hia)),fun _ _=>lS [.row (α:=Int) 3 qv (e8 (n8 a) Wq)] [.row (α:=Int) 3 qv ((e8 (n8 a) Wq).set i ((g+st:Nat):Int))] rfl rfl (g5 (k:=0) (u':=((g+st:Nat):Int)) zz3 hqg rfl rfl rfl rfl rfl rfl rfl rfl),trivial⟩ ?_
     clear h ac wo; intro ξ ac wo hφ h
     replace h:St w0 105 [(0,av),(1,bv),(4,qv),(5,ξ 11),(10,iN i)] [.row (α:=Int) 3 (ξ 4) (d8 (X - g*b - st*b)),.row (α:=Int) 3 qv ((e8 (n8 a) Wq).set i ((g+st:Nat):Int))] ac wo:=(h.pick [3,2] (by decide)).sub ⟨rfl,rfl,rfl,rfl,rfl,trivial⟩
     rw [show ξ 11=ξ 4 from hφ 11,e8_set hia hgs,← hWq,qJ Q i g (g+st) (by omega),show X - g*b - st*b=X - (g+st)*b by rw [Nat.add_mul]; omega] at h
     generalize ξ 4=r2 at h
     clear hφ ξ
     refine gz h <| (W) ?_; clear h ac wo; intro ac wo h
     exact az ⟨m2,by omega,g+st,r2,by omega,by omega,by rw [Nat.add_mul]; omega,h.re [0,1]⟩
   ·
    have hbt:decide ((2:Int)*((st:Nat):Int)≤128)=false:=decide_eq_false (by omega)
    rw [hbt] at h
    refine gz h <| (xg (g:=false) (v:=undef) (hs:=fun hg=>Bool.noConfusion hg)) <| (xg (g:=false) (v:=undef) (hs:=fun hg=>Bool.noConfusion hg)) <| (xg (g:=false) (v:=.bool false) (hs:=fun hg=>Bool.noConfusion hg)) <| (ai) ?_ ?_ <;> clear h ac wo <;> intro ac wo h hc5
    · cases hc5
    ·
     refine gz h <| (W) ?_; clear h ac wo; intro ac wo h
     replace h:St w0 105 [(0,av),(1,bv),(4,qv),(5,r1),(10,iN i),(11,iN st),(12,pv)] [A,.row (α:=Int) 3 r1 (d8 (X - g*b)),.row (α:=Int) 3 qv (e8 (n8 a) Wq)] ac wo:=h.re [0,1,2]
     replace h:=h.emps 1
     refine fU mixed [dv qv,dv (iN i),dv r1,dv pv,⟨.nd (.con True),[3,1,0]⟩,dv qv,dv (iN i),dv (sel qv (i*1+0)),dw (iN g) [2],dv (iN st),dv (iN (g+st)),⟨.nd (.two 11 4 fun a b=>a=b),[]⟩,dv (sel qv (i*1+0)),dw undef [2]]
      [⟨_,[]⟩,⟨_,[]⟩,⟨.row (α:=Int) 3 qv (e8 (n8 a) Wq),[(13,.con (.row (α:=Int) 3 qv ((e8 (n8 a) Wq).set i ((g+st:Nat):Int))))]⟩,⟨.emp,[(4,.one 4 fun x=>.row (α:=Int) 3 x (d8 (X - g*b - st*b)))]⟩] h rfl (by kernel_rfl)
      ⟨oA obA,oA obA,oA obA,oA obA,
       fun ξ _=>my (B:=fun x=>[.row (α:=Int) 3 x (d8 (X - g*b - st*b)),.row (α:=Int) 3 r1 (d8 (X - g*b)),A]) [.emp,.row (α:=Int) 3 r1 (d8 (X - g*b)),A] rfl (fun v _=>by simp only [dJ,bt] <;> rfl) (fun _ _=>trivial) (s_empR (wG (cz Tryz.call305 rfl) (fun w_ hB_ hS_=>tg (X - g*b) (st*b) r1 pv hle nXg w_ (row_view hS_ 0 rfl) (ik hA hB_ hS_ 1 rfl)))),
       oA obA,oA obA,(fun _ _=>bk (iT uu245 zz3 rfl rfl nnq hia)),(fun _ _=>jB _ rfl rfl (iM (i:=i) (k:=0) aa3 zz3 hqg rfl rfl rfl rfl rfl)),oA obA,(fun _ _=>bk (eV rfl rfl (r:=((g+st:Nat):Int)) (by rw [IntKind.wrap_i64]; omega))),fun _ _=>rI (j:=4) (by decide) rfl,
       (fun _ _=>bk (iT uu245 zz3 rfl rfl nnq hia)),fun _ _=>lS [.row (α:=Int) 3 qv (e8 (n8 a) Wq)] [.row (α:=Int) 3 qv ((e8 (n8 a) Wq).set i ((g+st:Nat):Int))] rfl rfl (g5 (k:=0) (u':=((g+st:Nat):Int)) zz3 hqg rfl rfl rfl rfl rfl rfl rfl rfl),trivial⟩ ?_
     clear h ac wo; intro ξ ac wo hφ h
     replace h:St w0 105 [(0,av),(1,bv),(4,qv),(5,ξ 11),(10,iN i)] [.row (α:=Int) 3 (ξ 4) (d8 (X - g*b - st*b)),.row (α:=Int) 3 qv ((e8 (n8 a) Wq).set i ((g+st:Nat):Int))] ac wo:=(h.pick [3,2] (by decide)).sub ⟨rfl,rfl,rfl,rfl,rfl,trivial⟩
     rw [show ξ 11=ξ 4 from hφ 11,e8_set hia hgs,← hWq,qJ Q i g (g+st) (by omega),show X - g*b - st*b=X - (g+st)*b by rw [Nat.add_mul]; omega] at h
     generalize ξ 4=r2 at h
     clear hφ ξ
     refine gz h <| (W) ?_; clear h ac wo; intro ac wo h
     exact az ⟨m2,by omega,g+st,r2,by omega,by omega,by rw [Nat.add_mul]; omega,h.re [0,1]⟩
  ·
   rw [zZ,hqt'] at hc4
   have hlt2:X - g*b < b:=by
    refine Classical.byContradiction fun hn=>?_
    have e1:decide (b≤X - g*b)=true:=decide_eq_true (by omega)
    rw [e1,Bool.true_and] at hc4
    have e2:=of_decide_eq_false hc4
    have e3:g=255:=by omega
    subst e3
    omega
   have hdv:X / b=g:=by
    refine (Nat.div_eq_iff b0).2 ⟨hgX,?_⟩
    omega
   have hmd:X % b=X - g*b:=by
    have:=Nat.div_add_mod X b
    rw [hdv,Nat.mul_comm] at this
    omega
   have hq2:=hnx g (by rw [hR,hx,hXe]; exact hdv)
   rw [hQ,hWq] at hq2
   rw [← hmd,hT.2,hq2] at h
   refine gz h <| (xo (hs:=by exact subN rfl (by omega))) <| (W) ?_; clear h ac wo; intro ac wo h
   exact az ⟨m1,by omega,k+1,r1,by omega,by omega,by rw [show n8 a - (k+1)=i by omega,show ((n8 a:Int) - 1 - ((k+1:Nat):Int))=(i:Int) - 1 by omega]; exact h.re [0,1]⟩
 ·
  obtain rfl:k=n8 a:=by have:=of_decide_eq_false hc3; omega
  rw [Nat.sub_self,Nat.pow_zero,Nat.div_one,Nat.mul_one] at h
  have nq:n8 (a / b)≤n8 a:=lV (Nat.div_le_self _ _)
  refine gz h <| (xc (ct:=by exact fun w_ hB_ hS_=>mg (n8 a) (a / b) qv (k8.1 nq) w_ (row_view hS_ 1 rfl))) <| (W) ?_; clear h ac wo; intro ac wo h
  replace h:=h.rowcut 1 (n8 (a / b)) rfl (by rw [eY]; exact nq)
  rw [r5 nq] at h
  exact nO (vs:=[nP qv (n8 (a / b)),rv]) h rfl (.tmp rfl (.tmp rfl .nil)) rfl ((h.pick [1,0] (by decide)).ret2)
end Go.Sx
namespace Go.Sx
open Go Go.RowKit Go.Proofs
set_option maxRecDepth 100000
set_option maxHeartbeats 8000000
attribute [local irreducible] Code.wp wpList Rd Step ObS Ent
def Lc (a b:Nat):Prop:=¬ (n8 a≤7∧n8 b≤7)∧a < b
inductive Out8:Nat→Nat→Option Value→Option Value→Option Value→Prop
 | done (x:Nat) (xs ys:Option Value):Out8 x 0 xs ys xs
 | swap {x y:Nat} {xs ys o:Option Value} (hy:0 < y) (hl:Lc x y) (h:Out8 y x ys xs o):Out8 x y xs ys o
 | step {x y:Nat} {xs ys o:Option Value} (hy:0 < y) (hl:¬ Lc x y) (h:Out8 y (x % y) ys none o):Out8 x y xs ys o
theorem Out8.ex:∀ (n x y:Nat) (xs ys:Option Value),y < n→∃ o,Out8 x y xs ys o
 | 0,x,y,xs,ys,h=>by omega
 | n+1,x,y,xs,ys,h=>by
  by_cases hy:0 < y
  · by_cases hl:Lc x y
    · obtain ⟨o,ho⟩:=Out8.ex n y x ys xs (by have:=hl.2; omega)
      exact ⟨o,.swap hy hl ho⟩
    · obtain ⟨o,ho⟩:=Out8.ex n y (x % y) ys none (by have:=Nat.mod_lt x hy; omega)
      exact ⟨o,.step hy hl ho⟩
  · obtain rfl:y=0:=by omega
    exact ⟨xs,.done x xs ys⟩
def S8z (w0:World) (xs:Option Value) (sv:Value) (l:List Int) (A:Asn):Prop:=(xs=some sv∧A=.emp∧View w0 sv l)∨(xs=none∧A=.row (α:=Int) 3 sv l)
theorem S8z.src {w0:World} {xs:Option Value} {sv:Value} {l:List Int} {A:Asn} (h:S8z w0 xs sv l A):Src w0 sv l A:=by
 rcases h with ⟨_,h1,h2⟩ | ⟨_,h⟩
 · exact .inl ⟨h1,h2⟩
 · exact .inr h
def RetO (w:World) (o:Option Value) (l:List Int):Ending→World→Prop:=match o with
 | some v=>dh w v True
 | none=>RetR w 3 l True
instance cf263:Cf Tryz.prog 263:=⟨cc263⟩
theorem w9 (a b:Nat) (av bv:Value) (ha:n8 a≤1000000000) (hb:n8 b≤1000000000) (o:Option Value) (ho:Out8 a b (some av) (some bv) o) (w0:World) (hav:View w0 av (d8 a)) (hbv:View w0 bv (d8 b)):Calls Tryz.prog 262 #[av,bv] w0 (RetO w0 o (d8 (Nat.gcd a b))):=by
 refine enter (N:=19) (args:=[av,bv]) Tryz.func262 rfl rfl ?_; intro ac h
 haveI:On:=⟨trivial⟩
 refine gz h <| (W) ?_; clear h ac; intro ac wo h
 replace h:=h.emps 2
 refine wp_loop_ghost (fun n_ a_ w_=>∃ (x y:Nat) (xs ys:Option Value) (xv yv:Value) (X Y:Asn),(y < n_)∧(n8 x≤1000000000)∧(n8 y≤1000000000)∧(Nat.gcd x y=Nat.gcd a b)∧Out8 x y xs ys o∧S8z w0 xs xv (d8 x) X∧S8z w0 ys yv (d8 y) Y∧St w0 19 [(0,xv),(1,yv)] [X,Y] a_ w_) (b+1) ⟨a,b,some av,some bv,av,bv,.emp,.emp,by omega,ha,hb,rfl,ho,.inl ⟨rfl,rfl,hav⟩,.inl ⟨rfl,rfl,hbv⟩,h.re [0,1]⟩ ?_
 clear h ac wo; rintro n1 ac wo ⟨x,y,xs,ys,xv,yv,X,Y,hm1,nx_,ny_,hgcd,hout,hX,hY,h⟩
 obtain ⟨m1,rfl⟩:∃ m,n1=m+1:=⟨n1 - 1,by omega⟩
 have hsl:SL yv (n8 y):=by have:=(ik hY.src h.bel h.sep 1 rfl).sl; rw [qi] at this; exact this
 refine gz h <| (ai) ?_ ?_ <;> clear h ac wo <;> intro ac wo h hc
 ·
  have hy:0 < y:=yF.1 (by have:=of_decide_eq_true hc; omega)
  by_cases hL:Lc x y
  ·
   have hout2:Out8 y x ys xs o:=by
    cases hout with
    | done=>omega
    | swap _ _ h=>exact h
    | step _ hn _=>exact absurd hL hn
   refine gz h <| (xc (ct:=by exact fun w_ hB_ hS_=>zF x y xv yv (by omega) (by omega) hL.1 hL.2 w_ (ik hX.src hB_ hS_ 0 rfl) (ik hY.src hB_ hS_ 1 rfl))) <| (W) ?_; clear h ac wo; intro ac wo h
   exact az ⟨m1,by omega,y,x,ys,xs,yv,xv,Y,X,by have:=hL.2; omega,ny_,nx_,by rw [Nat.gcd_comm]; exact hgcd,hout2,hY,hX,h.re [1,0]⟩
  ·
   have hout2:Out8 y (x % y) ys none o:=by
    cases hout with
    | done=>omega
    | swap _ hl _=>exact absurd hl hL
    | step _ _ h=>exact h
   have cd:∀ w:World,View w xv (d8 x)→View w yv (d8 y)→Calls Tryz.prog 263 #[xv,yv] w (Ret2 w (x / y) (x % y)):=fun w h1 h2=>by
    by_cases hs:n8 x≤7∧n8 y≤7
    · exact zE x y xv yv hs.1 hs.2 hy w h1 h2
    · exact zG x y xv yv nx_ ny_ hs (Nat.not_lt.1 fun hlt=>hL ⟨hs,hlt⟩) hy w h1 h2
   refine gz h <| (W) ?_; clear h ac wo; intro ac wo h
   refine uS h (cz cc263 rfl) (fun w_ hB_ hS_=>cd w_ (ik hX.src hB_ hS_ 0 rfl) (ik hY.src hB_ hS_ 1 rfl)) rfl ?_; clear h ac wo; intro v ac wo hv h
   obtain ⟨qv,hq⟩:∃ q,kh v=q:=⟨_,rfl⟩
   obtain ⟨rv,hr⟩:∃ q,tsnd v=q:=⟨_,rfl⟩
   rw [hq,hr] at hv h
   rw [hv.1] at h
   have h4:=Nat.mod_lt x hy
   refine gz h <| (W) ?_; clear h ac wo; intro ac wo h
   exact az ⟨m1,by omega,y,x % y,ys,none,yv,rv,Y,.row (α:=Int) 3 rv (d8 (x % y)),by omega,ny_,by have:=lV (Nat.le_of_lt h4); omega,by rw [Nat.gcd_comm y,← Nat.gcd_rec,Nat.gcd_comm]; exact hgcd,hout2,hY,.inr ⟨rfl,rfl⟩,h.re [3,1]⟩
 ·
  have hy:y=0:=by
   have:=of_decide_eq_false hc
   have h9:¬ 0 < n8 y:=by omega
   rw [yF] at h9; omega
  subst hy
  have ho2:o=xs:=by
   cases hout with
   | done=>rfl
   | swap h _ _=>omega
   | step h _ _=>omega
  subst ho2
  rw [Nat.gcd_zero_right] at hgcd
  rw [← hgcd]
  refine gz h <| (W) ?_; clear h ac wo; intro ac wo h
  rcases hX with ⟨e1,e2,_⟩ | ⟨e1,e2⟩
  · rw [e1]
    exact (rt h) (h.retP rfl trivial)
  · rw [e1]
    rw [e2] at h
    exact (rt h) (h.retR 0 rfl trivial)
end Go.Sx
namespace Go.Sx
def canQ (neg:Bool) (n d:Nat):GQ:=⟨⟨neg && decide (0 < n / Nat.gcd n d),n / Nat.gcd n d⟩,⟨false,if d / Nat.gcd n d=1 then 0 else d / Nat.gcd n d⟩⟩
def sgN (neg:Bool) (n:Nat):Int:=if neg then -(n:Int) else (n:Int)
end Go.Sx
namespace Go.Sx
open Go Go.RowKit Go.Proofs
set_option maxRecDepth 100000
set_option maxHeartbeats 8000000
attribute [local irreducible] Code.wp wpList Rd Step ObS Ent
section
variable {w0:World} {N:Nat} {F:List (Nat×Value)} {L:List Asn} {a:Act} {w:World} {ops:Array Oper} {Q:Exit→Act→World→Prop} {rest:List Oper} {d:Nat} {op:Op} {ty:TypeId} {pos:String} {aft:Array Edge}
theorem c_div {x y:Nat} {xv yv:Value} (h:St w0 N F L a w) (he:Ent Tryz.prog F op 263 [xv,yv]) (nx_:n8 x≤1000000000) (ny_:n8 y≤1000000000) (hy:0 < y)
 (hx:∀ w,Below w0.heap.size w0 w→(∃ U,Sep w0.heap.size w L U)→View w xv (d8 x)) (hyv:∀ w,Below w0.heap.size w0 w→(∃ U,Sep w0.heap.size w L U)→View w yv (d8 y)) (hd:Nat.blt d N=true)
 (k:∀ qv rv A a w,St w0 N ((d,.tuple #[qv,rv])::F) (.row (α:=Int) 3 qv (d8 (x / y))::A::L) a w→wpList Tryz.prog ops Q rest a w):wpList Tryz.prog ops Q (⟨some d,op,ty,pos,aft,none⟩::rest) a w:=by
 by_cases hL:Lc x y
 · refine xh h he (fun w_ hB_ hS_=>zF x y xv yv (by omega) (by omega) hL.1 hL.2 w_ (hx w_ hB_ hS_) (hyv w_ hB_ hS_)) hd fun a w h=>?_
   refine k (.slice none 0 0) xv .emp _ _ ?_
   rw [Nat.div_eq_of_lt hL.2]
   exact ((h.emps 1).nilRow (α:=Int) 3).perm ((List.perm_append_singleton _ _).cons _)
 · have cd:∀ w:World,View w xv (d8 x)→View w yv (d8 y)→Calls Tryz.prog 263 #[xv,yv] w (Ret2 w (x / y) (x % y)):=fun w h1 h2=>by
    by_cases hs:n8 x≤7∧n8 y≤7
    · exact zE x y xv yv hs.1 hs.2 hy w h1 h2
    · exact zG x y xv yv nx_ ny_ hs (Nat.not_lt.1 fun hlt=>hL ⟨hs,hlt⟩) hy w h1 h2
   refine uS h he (fun w_ hB_ hS_=>cd w_ (hx w_ hB_ hS_) (hyv w_ hB_ hS_)) hd fun v a w hv h=>?_
   obtain ⟨qv,hq⟩:∃ q,kh v=q:=⟨_,rfl⟩
   obtain ⟨rv,hr⟩:∃ q,tsnd v=q:=⟨_,rfl⟩
   rw [hq,hr] at hv h
   rw [hv.1] at h
   exact k qv rv _ _ _ h
theorem c_src {f:FuncId} {vs:List Value} {xs:List Int} (h:St w0 N F L a w) (he:Ent Tryz.prog F op f vs)
 (ct:(∃ v,View w0 v xs∧∀ w,Below w0.heap.size w0 w→Calls Tryz.prog f vs.toArray w (dh w v True))∨(∀ w,Below w0.heap.size w0 w→Calls Tryz.prog f vs.toArray w (RetR w 3 xs True))) (hd:Nat.blt d N=true)
 (k:∀ v A a w,Src w0 v xs A→St w0 N ((d,v)::F) (A::L) a w→wpList Tryz.prog ops Q rest a w):wpList Tryz.prog ops Q (⟨some d,op,ty,pos,aft,none⟩::rest) a w:=by
 rcases ct with ⟨v,hv,ct⟩ | ct
 · refine xh h he (fun w_ hB_ hS_=>ct w_ hB_) hd fun a w h=>?_
   exact k v .emp _ _ (.inl ⟨rfl,hv⟩) ((h.emps 1).perm (List.perm_append_singleton _ _))
 · refine iu (xs:=xs) h he (fun w_ hB_ hS_=>ct w_ hB_) hd fun v a w _ h=>?_
   exact k v _ _ _ (.inr rfl) h
end
theorem uM (a b:Nat) (av bv:Value) (ha:n8 a≤1000000000) (hb:n8 b≤1000000000) (w0:World) (hav:View w0 av (d8 a)) (hbv:View w0 bv (d8 b)) :
 (∃ v,View w0 v (d8 (Nat.gcd a b))∧∀ w,Below w0.heap.size w0 w→Calls Tryz.prog 262 #[av,bv] w (dh w v True))∨(∀ w,Below w0.heap.size w0 w→Calls Tryz.prog 262 #[av,bv] w (RetR w 3 (d8 (Nat.gcd a b)) True)):=by
 obtain ⟨o,ho⟩:=Out8.ex (b+1) a b (some av) (some bv) (by omega)
 have ct:=fun (w:World) (hB:Below w0.heap.size w0 w)=>w9 a b av bv ha hb o ho w (hav.below hB) (hbv.below hB)
 have key:∀ {x y xs ys o},Out8 x y xs ys o→Nat.gcd x y=Nat.gcd a b→(∀ v,xs=some v→View w0 v (d8 x))→(∀ v,ys=some v→View w0 v (d8 y))→∀ v,o=some v→View w0 v (d8 (Nat.gcd a b)):=by
  intro x y xs ys o h
  induction h with
  | done x xs ys=>intro hg h1 _ v hv; rw [← hg,Nat.gcd_zero_right]; exact h1 v hv
  | swap hy hl h ih=>intro hg h1 h2 v hv; exact ih (by rw [Nat.gcd_comm]; exact hg) h2 h1 v hv
  | step hy hl h ih=>intro hg h1 h2 v hv; exact ih (by rw [Nat.gcd_comm,← Nat.gcd_rec,Nat.gcd_comm]; exact hg) h2 (fun v hv=>by cases hv) v hv
 cases o with
 | some v=>exact .inl ⟨v,key ho rfl (fun v hv=>by cases hv; exact hav) (fun v hv=>by cases hv; exact hbv) v rfl,ct⟩
 | none=>exact .inr ct
def vFr (neg:Bool) (nv dv:Value):Value:=.agg #[.bool neg,nv,dv]
def cFr (neg:Bool) (nv dv:Value):List Value:=[.bool neg,nv,dv]
instance celFr (neg:Bool) (nv dv:Value):Cel (vFr neg nv dv) (cFr neg nv dv):=⟨rfl⟩
instance dcFr (neg:Bool) (nv dv:Value):Dc (cFr neg nv dv) (vFr neg nv dv):=⟨rfl⟩
instance sz247:Sz Tryz.prog 247 3:=⟨Tryz.sizeOf247⟩
instance ag247:Ag Tryz.prog 247 true:=⟨Tryz.isAgg247⟩
instance sz245:Sz Tryz.prog 245 1:=⟨Tryz.sizeOf245⟩
instance ag245:Ag Tryz.prog 245 false:=⟨Tryz.isAgg245⟩
instance zc247:Zc Tryz.prog 247 (cFr false (.slice none 0 0) (.slice none 0 0)):=⟨⟨_,vv247,rfl⟩⟩
instance fl247_0:Fl Tryz.prog 247 0 4 0:=⟨⟨_,_,uu247,rfl,rfl,rfl⟩⟩
instance fl247_1:Fl Tryz.prog 247 1 245 1:=⟨⟨_,_,uu247,rfl,rfl,rfl⟩⟩
instance fl247_2:Fl Tryz.prog 247 2 245 2:=⟨⟨_,_,uu247,rfl,rfl,rfl⟩⟩
instance cf264:Cf Tryz.prog 264:=⟨Tryz.call264⟩
theorem one8 (D:Nat):(((n8 D:Nat):Int) == 1 && gt (d8 D) 0 == 1)=decide (D=1):=by
 show (decide (((n8 D:Nat):Int)=1) && decide (gt (d8 D) 0=1))=decide (D=1)
 by_cases h1:n8 D=1
 · have h2:D < 256:=by have:=jY D; rw [h1] at this; simpa using this
   have h3:gt (d8 D) 0=((D:Nat):Int):=by unfold d8; rw [nG (by omega)]; simp; omega
   rw [h3,h1]; simp; omega
 · have h2:D≠1:=fun e=>by subst e; exact h1 (by decide +kernel)
   rw [decide_eq_false (by omega:¬ (((n8 D:Nat):Int)=1)),decide_eq_false h2]; rfl
theorem z7 (neg:Bool) (n d:Nat) (nv dv:Value) (hn:n8 n≤1000000000) (hd:n8 d≤1000000000) (d0:0 < d) (w0:World) (hnv:View w0 nv (d8 n)) (hdv:View w0 dv (d8 d)):Calls Tryz.prog 187 #[vFr neg nv dv] w0 (dh w0 (vQ (canQ neg n d)) True):=by
 obtain ⟨na,nc,rfl⟩:=hnv.sl
 obtain ⟨da,dc,rfl⟩:=hdv.sl
 rw [qi] at hnv hdv ⊢
 rw [qi]
 refine enter (N:=43) (args:=[vFr neg (.slice na (n8 n) nc) (.slice da (n8 d) dc)]) Tryz.func187 rfl rfl ?_; intro ac h
 haveI:On:=⟨trivial⟩
 have gpos:=Nat.gcd_pos_of_pos_right n d0
 have gn:=lV (Nat.gcd_le_right n d0)
 refine gz h <| (xb) fun b1=>(xa) fun b2=>(W) ?_; clear h ac; intro ac wo h
 refine c_src h (cz Tryz.call262 rfl) (uM n d _ _ hn hd w0 hnv hdv) rfl ?_; clear h ac wo; intro gv A ac wo hA h
 refine gz h <| (W) ?_; clear h ac wo; intro ac wo h
 refine c_div (x:=n) (y:=Nat.gcd n d) h (cz cc263 rfl) hn (by omega) gpos (fun w_ hB_ hS_=>hnv.below hB_) (fun w_ hB_ hS_=>ik hA hB_ hS_ 0 rfl) rfl ?_; clear h ac wo; intro q1 r1 B ac wo h
 refine gz h <| (W) ?_; clear h ac wo; intro ac wo h
 refine c_div (x:=d) (y:=Nat.gcd n d) h (cz cc263 rfl) hd (by omega) gpos (fun w_ hB_ hS_=>hdv.below hB_) (fun w_ hB_ hS_=>ik hA hB_ hS_ 2 rfl) rfl ?_; clear h ac wo; intro q2 r2 C ac wo h
 have hD:=lV (Nat.div_le_self d (Nat.gcd n d))
 have hM:=lV (Nat.div_le_self n (Nat.gcd n d))
 have ho:=one8 (d / Nat.gcd n d)
 have ec:canQ neg n d=⟨⟨neg && decide (0 < n / Nat.gcd n d),n / Nat.gcd n d⟩,⟨false,if d / Nat.gcd n d=1 then 0 else d / Nat.gcd n d⟩⟩:=rfl
 rw [ec]
 obtain ⟨D,hDe⟩:∃ D,d / Nat.gcd n d=D:=⟨_,rfl⟩
 obtain ⟨M,hMe⟩:∃ D,n / Nat.gcd n d=D:=⟨_,rfl⟩
 rw [hDe] at h hD ho ⊢
 rw [hMe] at h hM ⊢
 have hs2:SL q2 (n8 D):=by have:=h.row_sl 0 rfl; rw [qi] at this; exact this
 have hlD:=qi D
 refine gz h <| (ai) ?_ ?_ <;> clear h ac wo <;> intro ac wo h hc
 ·
  have hD1:D=1:=by
   have h9:(((n8 D:Nat):Int) == 1 && gt (d8 D) 0 == 1)=true:=hc
   rw [ho] at h9; exact of_decide_eq_true h9
  rw [if_pos hD1]
  refine gz h <| (xc (ct:=by exact fun w_ hB_ hS_=>lH (n8 M) M q1 neg (jY M) (by omega) w_ (row_view hS_ 2 rfl))) <| (xc (ct:=by exact fun w_ hB_ hS_=>lH 0 0 (.slice none 0 0) false (by decide) (by decide) w_ View.nilv)) <| (xo (hs:=by exact bX mR exs rfl (v:=vQ ⟨⟨neg && decide (0 < M),M⟩,⟨false,0⟩⟩) rfl)) <| (W) ?_; clear h ac wo; intro ac wo h
  exact rtc 5 h (h.retP (u:=vQ ⟨⟨neg && decide (0 < M),M⟩,⟨false,0⟩⟩) rfl trivial)
 ·
  have hD1:¬ D=1:=by
   have h9:(((n8 D:Nat):Int) == 1 && gt (d8 D) 0 == 1)=false:=hc
   rw [ho] at h9; exact of_decide_eq_false h9
  rw [if_neg hD1]
  refine gz h <| (xc (ct:=by exact fun w_ hB_ hS_=>lH (n8 M) M q1 neg (jY M) (by omega) w_ (row_view hS_ 2 rfl))) <| (xc (ct:=by exact fun w_ hB_ hS_=>lH (n8 D) D q2 false (jY D) (by omega) w_ (row_view hS_ 0 rfl))) <| (xo (hs:=by exact bX mR exs rfl (v:=vQ ⟨⟨neg && decide (0 < M),M⟩,⟨false,D⟩⟩) rfl)) <| (W) ?_; clear h ac wo; intro ac wo h
  exact rtc 5 h (h.retP (u:=vQ ⟨⟨neg && decide (0 < M),M⟩,⟨false,D⟩⟩) rfl trivial)
end Go.Sx
namespace Go.Sx
open Go Go.RowKit Go.Proofs
set_option maxRecDepth 100000
set_option maxHeartbeats 8000000
attribute [local irreducible] Code.wp wpList Rd Step ObS Ent
theorem SL.isl {v:Value} {n:Nat} (h:SL v n):ue v:=by obtain ⟨a,c,rfl⟩:=h; exact ⟨_,_,_,rfl⟩
theorem bldFr:BuildF Tryz.prog 247 [.bool false,.slice none 0 0,.slice none 0 0] [(0,1),(1,1),(2,1)]:=BuildF.of vv247 rfl uu247 (by intro w; simp [Tryz.sizeOf4,Tryz.sizeOf245])
theorem r_bFr {w0:World} {F:List (Nat×Value)} {x y z:Operand} {b:Bool} {u v:Value} (hx:evs F [x,y,z]=some [.bool b,u,v]) (hu:ue u) (hv:ue v):Rd Tryz.prog w0 F [] (.build 247 #[(0,x),(1,y),(2,z)]) (vFr b u v):=by
 obtain ⟨_,_,_,rfl⟩:=hu
 obtain ⟨_,_,_,rfl⟩:=hv
 exact bX (parts:=[(0,x),(1,y),(2,z)]) bldFr hx rfl rfl
instance cf261:Cf Tryz.prog 261:=⟨cc261⟩
end Go.Sx
namespace Go.Sx
open Go Go.RowKit Go.Proofs
set_option maxRecDepth 100000
set_option maxHeartbeats 8000000
attribute [local irreducible] Code.wp wpList Rd Step ObS Ent
theorem make8_ct (x y:GI) (hx:n8 x.mag≤1000000000) (hy:n8 y.mag≤1000000000) (y0:0 < y.mag) (w0:World):Calls Tryz.prog 236 #[vI x,vI y] w0 (dh w0 (vQ (canQ (x.neg != y.neg) x.mag y.mag)) True):=by
 refine enter (N:=16) (args:=[vI x,vI y]) Tryz.func236 rfl rfl ?_; intro ac h
 haveI:On:=⟨trivial⟩
 refine gz h <| (xb) fun b1=>(xb) fun b2=>(xa) fun b3=>(W) ?_; clear h ac; intro ac wo h
 obtain ⟨C,hC⟩:∃ C,canQ (x.neg != y.neg) x.mag y.mag=C:=⟨_,rfl⟩
 have cc:=fun (nv dv:Value) (w:World) (h1:View w nv (d8 x.mag)) (h2:View w dv (d8 y.mag))=>z7 (x.neg != y.neg) x.mag y.mag nv dv hx hy y0 w h1 h2
 rw [hC] at cc ⊢
 replace h:=h.emps 2
 refine fU mixed [dv (ptr b1 0),dw (.bool x.neg) [2],dv (ptr b2 0),dw (.bool y.neg) [1],dv (.bool (x.neg != y.neg)),dw (vI x) [2],⟨.nd (.one 6 fun v=>SL v (d8 x.mag).length∧True),[3]⟩,dw (vI y) [1],⟨.nd (.one 8 fun v=>SL v (d8 y.mag).length∧True),[4]⟩,⟨.nd (.three 9 6 8 fun v u z=>v=vFr (x.neg != y.neg) u z),[]⟩,dw (vQ C) [3,4],dw undef [0]]
  [⟨.blk b3 (cQ oQ) 29,[(11,.con (.blk b3 (cQ C) 29))]⟩,⟨_,[]⟩,⟨_,[]⟩,⟨.emp,[(6,.one 6 fun z=>.row (α:=Int) 3 z (d8 x.mag))]⟩,⟨.emp,[(8,.one 8 fun z=>.row (α:=Int) 3 z (d8 y.mag))]⟩] h rfl (by kernel_rfl)
  ⟨oA (fun _=>bk (a_fa rfl rfl rfl)),oA obA,oA (fun _=>bk (a_fa rfl rfl rfl)),oA obA,oA obA,oA obA,
   fun ξ _=>my (ψ:=fun v=>SL v (d8 x.mag).length∧True) (B:=fun z=>[.row (α:=Int) 3 z (d8 x.mag)]) [.emp] rfl (fun v _=>by simp only [dJ,bt] <;> rfl) (fun v hv=>by simpa [DF.one,bt] using hv) (jh (wG (cz cc261 rfl) (fun w_ hB_ hS_=>zI x (by omega) w_))),
   oA obA,
   fun ξ _=>my (ψ:=fun v=>SL v (d8 y.mag).length∧True) (B:=fun z=>[.row (α:=Int) 3 z (d8 y.mag)]) [.emp] rfl (fun v _=>by simp only [dJ,bt] <;> rfl) (fun v hv=>by simpa [DF.one,bt] using hv) (jh (wG (cz cc261 rfl) (fun w_ hB_ hS_=>zI y (by omega) w_))),
   fun ξ hφ=>my (ψ:=fun v=>v=vFr (x.neg != y.neg) (ξ 6) (ξ 8)) (B:=fun _=>[]) [] rfl (fun _ _=>rfl) (fun v hv=>hv) (Rd.step (r_bFr rfl (SL.isl (hφ 6 rfl).1) (SL.isl (hφ 8 rfl).1))),
   fun ξ hφ=>lS [.row (α:=Int) 3 (ξ 6) (d8 x.mag),.row (α:=Int) 3 (ξ 8) (d8 y.mag)] [.row (α:=Int) 3 (ξ 6) (d8 x.mag),.row (α:=Int) 3 (ξ 8) (d8 y.mag)] rfl rfl (fq (vs:=[vFr (x.neg != y.neg) (ξ 6) (ξ 8)]) (cz Tryz.call187 (congrArg (fun z=>some [z]) (hφ 9 rfl))) (fun w_ hB_ hS_=>cc (ξ 6) (ξ 8) w_ (row_view hS_ 0 rfl) (row_view hS_ 1 rfl))),
   oA (fun _=>ob_st (u:=vQ C) rfl rfl (ls_ (n:=4) (us:=cQ C) 0 rfl rfl rfl rfl rfl rfl)),trivial⟩ ?_
 clear h ac wo; intro ξ ac wo hφ h
 replace h:St w0 16 [(4,ptr b3 0)] [.blk b3 (cQ C) 29] ac wo:=(h.pick [0] (by decide)).sub ⟨rfl,trivial⟩
 refine gz h <| (W) ?_; clear h ac wo; intro ac wo h
 exact rtc 0 h (h.retP (u:=vQ C) rfl trivial)
def int8 (n:Int):GI:=⟨decide (n < 0) && decide (0 < n.natAbs),n.natAbs⟩
theorem sg_rem (g:Bool) (u:Nat):(sgN g u).tmod 256=sgN g (u % 256):=by
 unfold sgN
 cases g with
 | false=>show ((u:Int)).tmod 256=_; rw [Int.tmod_eq_emod_of_nonneg (Int.natCast_nonneg u)]; rfl
 | true=>show (-(u:Int)).tmod 256=-((u % 256:Nat):Int); rw [Int.neg_tmod,Int.tmod_eq_emod_of_nonneg (Int.natCast_nonneg u)]; rfl
theorem sg_quo (g:Bool) (u:Nat):(sgN g u).tdiv 256=sgN g (u / 256):=by
 unfold sgN
 cases g with
 | false=>show ((u:Int)).tdiv 256=_; rw [Int.tdiv_eq_ediv_of_nonneg (Int.natCast_nonneg u)]; rfl
 | true=>show (-(u:Int)).tdiv 256=-((u / 256:Nat):Int); rw [Int.neg_tdiv,Int.tdiv_eq_ediv_of_nonneg (Int.natCast_nonneg u)]; rfl
theorem sg_bd {g:Bool} {u N:Nat} (hu:u≤N) (hN:N≤9223372036854775808) (h:g=false→N≤9223372036854775807):-9223372036854775808≤sgN g u∧sgN g u≤9223372036854775807:=by
 unfold sgN
 cases g with
 | false=>have:=h rfl; constructor <;> simp <;> omega
 | true=>constructor <;> simp <;> omega
instance cf237:Cf Tryz.prog 237:=⟨Tryz.call237⟩
instance cf236:Cf Tryz.prog 236:=⟨Tryz.call236⟩
theorem yU (n:Int) (hn:-9223372036854775808≤n∧n≤9223372036854775807) (w0:World):Calls Tryz.prog 237 #[.int .i64 n] w0 (dh w0 (vI (int8 n)) True):=by
 refine enter (N:=25) (args:=[.int .i64 n]) Tryz.func237 rfl rfl ?_; intro ac h
 haveI:On:=⟨trivial⟩
 have ei:int8 n=⟨decide (n < 0) && decide (0 < n.natAbs),n.natAbs⟩:=rfl
 rw [ei]
 obtain ⟨K,hK⟩:∃ K,n.natAbs=K:=⟨_,rfl⟩
 obtain ⟨g,hg⟩:∃ g,decide (n < 0)=g:=⟨_,rfl⟩
 have en:n=sgN g K:=by
  unfold sgN
  cases g with
  | false=>have:=of_decide_eq_false hg; simp; omega
  | true=>have:=of_decide_eq_true hg; simp; omega
 have hK8:K≤9223372036854775808:=by omega
 have hKf:g=false→K≤9223372036854775807:=fun e=>by rw [e] at hg; have:=of_decide_eq_false hg; omega
 have n8K:n8 K≤8:=k8.2 (Nat.lt_of_le_of_lt hK8 (by decide))
 rw [hK,hg]
 refine gz h <| (xa) fun b2=>(W) ?_; clear h ac; intro ac wo h
 replace h:=h.nilRow (α:=Int) 3
 refine wp_loop_ghost (fun n_ a_ w_=>∃ (i:Nat) (sv:Value),(n8 K - i < n_)∧(i≤n8 K)∧St w0 25 [(0,.int .i64 n),(2,ptr b2 0),(3,sv),(4,.int .i64 (sgN g (K / 256 ^ i)))] [.row (α:=Int) 3 sv (e8 i K),.blk b2 (cI ⟨false,0⟩) 27] a_ w_) (n8 K+1) ⟨0,_,by omega,by omega,by rw [Nat.pow_zero,Nat.div_one,← en]; exact h.re [0,1]⟩ ?_
 clear h ac wo; rintro n1 ac wo ⟨i,sv,hm1,hi,h⟩
 obtain ⟨m1,rfl⟩:∃ m,n1=m+1:=⟨n1 - 1,by omega⟩
 have hle:K / 256 ^ i≤K:=Nat.div_le_self _ _
 have hps:K / 256 ^ i / 256=K / 256 ^ (i+1):=by rw [p8s,Nat.div_div_eq_div_mul]
 have hiff:0 < K / 256 ^ i↔i < n8 K:=by rw [Nat.div_pos_iff,uy]; have:=p8 i; omega
 obtain ⟨u,hu⟩:∃ u,K / 256 ^ i=u:=⟨_,rfl⟩
 rw [hu] at h hle hps hiff
 have hsz:sgN g u=0↔u=0:=by unfold sgN; cases g <;> simp
 have hbd:=sg_bd (g:=g) (u:=u / 256) (N:=K) (by omega) hK8 hKf
 refine gz h <| (ai) ?_ ?_ <;> clear h ac wo <;> intro ac wo h hc
 ·
  have hlt:i < n8 K:=hiff.1 (by
   have h9:sgN g u≠0:=bne_iff_ne.1 hc
   rw [ne_eq,hsz] at h9; omega)
  refine gz h <| (xo (hs:=by exact ru rfl rfl (by decide) (sg_rem g u))) <| (ai) ?_ ?_ <;> clear h ac wo <;> intro ac wo h hc2
  ·
   have h3:(0:Int) - sgN g (u % 256)=((u % 256:Nat):Int):=by
    have h9:=of_decide_eq_true hc2
    unfold sgN at h9 ⊢
    cases g with
    | false=>exfalso; have h9:((u % 256:Nat):Int) < 0:=h9; omega
    | true=>simp
   refine gz h <| (xo (hs:=by exact fv rfl rfl (r:=((u % 256:Nat):Int)) (by rw [h3,IntKind.wrap_i64]; omega))) <| (W) ?_; clear h ac wo; intro ac wo h
   refine nw h (bT (α:=Int) (xs:=[.tmp 16]) (vs:=[.int .i64 ((u % 256:Nat):Int)]) [((u % 256:Nat):Int)] f5 rfl rfl rfl (by decide)) rfl ?_; clear h ac wo; intro s1 ac wo _ h
   refine on2 h 1 0 rfl rfl (eA (xs:=e8 i K) (ys:=[((u % 256:Nat):Int)]) f5 (fun w hs=>(row_view hs 0 rfl)) rfl rfl (by rw [eY]; show _+1≤_; omega)) rfl ?_; clear h ac wo; intro s2 ac wo _ h
   rw [← hu,← jF,hu] at h
   refine gz h <| (xo (hs:=by exact oV rfl rfl (by decide) (r:=sgN g (u / 256)) (by rw [sg_quo,IntKind.wrap_i64]; omega))) <| (W) ?_; clear h ac wo; intro ac wo h
   rw [hps] at h
   exact az ⟨m1,by omega,i+1,s2,by omega,by omega,h.re [0,2]⟩
  ·
   have h3:sgN g (u % 256)=((u % 256:Nat):Int):=by
    have h9:=of_decide_eq_false hc2
    unfold sgN at h9 ⊢
    cases g with
    | false=>rfl
    | true=>simp at h9 ⊢; omega
   rw [h3] at h
   refine gz h <| (W) ?_; clear h ac wo; intro ac wo h
   refine nw h (bT (α:=Int) (xs:=[.tmp 16]) (vs:=[.int .i64 ((u % 256:Nat):Int)]) [((u % 256:Nat):Int)] f5 rfl rfl rfl (by decide)) rfl ?_; clear h ac wo; intro s1 ac wo _ h
   refine on2 h 1 0 rfl rfl (eA (xs:=e8 i K) (ys:=[((u % 256:Nat):Int)]) f5 (fun w hs=>(row_view hs 0 rfl)) rfl rfl (by rw [eY]; show _+1≤_; omega)) rfl ?_; clear h ac wo; intro s2 ac wo _ h
   rw [← hu,← jF,hu] at h
   refine gz h <| (xo (hs:=by exact oV rfl rfl (by decide) (r:=sgN g (u / 256)) (by rw [sg_quo,IntKind.wrap_i64]; omega))) <| (W) ?_; clear h ac wo; intro ac wo h
   rw [hps] at h
   exact az ⟨m1,by omega,i+1,s2,by omega,by omega,h.re [0,2]⟩
 ·
  have he:i=n8 K:=by
   have h9:sgN g u=0:=by simpa using hc
   rw [hsz] at h9
   rw [h9] at hiff; omega
  subst he
  refine gz h <| (W) ?_; clear h ac wo; intro ac wo h
  rw [hg] at h
  refine gz h <| (xc (ct:=by exact fun w_ hB_ hS_=>lH (n8 K) K sv g (jY K) (by omega) w_ (row_view hS_ 0 rfl))) <| (W) ?_; clear h ac wo; intro ac wo h
  exact rtc 1 h (h.retP (u:=vI ⟨g && decide (0 < K),K⟩) rfl trivial)
theorem uE (n:Int):IOk (int8 n)∧fL (int8 n)=n∧(int8 n).mag=n.natAbs:=by
 unfold int8 IOk fL
 refine ⟨fun h=>?_,?_,rfl⟩
 · have h:n.natAbs=0:=h
   show (decide (n < 0) && decide (0 < n.natAbs))=false
   rw [h,decide_eq_false (Nat.lt_irrefl 0),Bool.and_false]
 · by_cases h0:n < 0
   · rw [decide_eq_true h0,decide_eq_true (by omega:0 < n.natAbs)]
     show -((n.natAbs:Nat):Int)=n
     omega
   · rw [decide_eq_false h0]
     show ((n.natAbs:Nat):Int)=n
     omega
def ofQ (n d:Int):GQ:=canQ ((int8 n).neg != (int8 d).neg) n.natAbs d.natAbs
theorem rH (n d:Int) (hn:-9223372036854775808≤n∧n≤9223372036854775807) (hd:-9223372036854775808≤d∧d≤9223372036854775807) (d0:d≠0) (w0:World):Calls Tryz.prog 140 #[.int .i64 n,.int .i64 d] w0 (dh w0 (vQ (ofQ n d)) True):=by
 have c1:=yU n hn
 have c2:=yU d hd
 have s8:∀ k:Int,-9223372036854775808≤k∧k≤9223372036854775807→n8 k.natAbs≤8:=fun k hk=>k8.2 (Nat.lt_of_le_of_lt (show k.natAbs≤9223372036854775808 by omega) (by decide))
 have c3:=make8_ct (int8 n) (int8 d) (by have:=s8 n hn; rw [(uE n).2.2]; omega) (by have:=s8 d hd; rw [(uE d).2.2]; omega) (by rw [(uE d).2.2]; omega)
 refine enter (N:=10) (args:=[.int .i64 n,.int .i64 d]) Tryz.func140 rfl rfl ?_; intro ac h
 refine gz h <| (xa) fun b1=>(xk c1) <| (xk c2) <| (xk c3) <| (W) ?_; clear h ac; intro ac wo h
 exact rtc 0 h (h.retP (u:=vQ (ofQ n d)) rfl trivial)
end Go.Sx
namespace Go.Sx
open Go Go.RowKit Go.Proofs
set_option maxRecDepth 100000
set_option maxHeartbeats 8000000
attribute [local irreducible] Code.wp wpList Rd Step ObS Ent
def sC (n:Int):GR:=⟨ofQ n 1,oQ,false⟩
instance cf139:Cf Tryz.prog 139:=⟨Tryz.call139⟩
theorem mV (n:Int) (hn:-9223372036854775808≤n∧n≤9223372036854775807) (w0:World):Calls Tryz.prog 139 #[.int .i64 n] w0 (dh w0 (vR (sC n)) True):=by
 refine enter (N:=6) (args:=[.int .i64 n]) Tryz.func139 rfl rfl ?_; intro ac h
 haveI:On:=⟨trivial⟩
 have c1:=rH n 1 hn (by decide) (by decide)
 unfold sC
 generalize ofQ n 1=q at *
 refine gz h <| (xa) fun b1=>(W) ?_; clear h ac; intro ac wo h
 refine xh h (cz Tryz.call140 rfl) (fun w_ _ _=>c1 w_) rfl fun ac wo h=>?_
 refine gz h <| (xo (hs:=by exact bX xn exs rfl (v:=(vR (⟨q,oQ,false⟩:GR))) rfl)) <| (W) ?_; clear h ac wo; intro ac wo h
 exact rtc 0 h (h.retP (u:=vR (⟨q,oQ,false⟩:GR)) rfl trivial)
instance cf239:Cf Tryz.prog 239:=⟨Tryz.call239⟩
end Go.Sx
namespace Go.Sx
open Go Go.RowKit Go.Proofs
set_option maxRecDepth 100000
set_option maxHeartbeats 8000000
attribute [local irreducible] Code.wp wpList Rd Step ObS Ent
attribute [local irreducible] ah ak aq an bN aQ dU vk sW sO qt cC aM aB
instance cf252:Cf Tryz.prog 252:=⟨Tryz.call252⟩
instance cf162:Cf Tryz.prog 162:=⟨Tryz.call162⟩
instance cf161:Cf Tryz.prog 161:=⟨Tryz.call161⟩
theorem yQ (q:Qd) (i:Iv) (r1:Bool) (H:E1 q i r1) (w0:World):Calls Tryz.prog 162 #[vD q,vV i] w0 (dh w0 (.tuple #[vEX ⟨qAt q i.lo,i.lo,true⟩,.int .i64 0]) True):=by
 refine enter (N:=11) (args:=[vD q,vV i]) Tryz.func162 rfl rfl ?_; intro ac h
 refine gz h <| (xb) fun b1=>(xb) fun b2=>(xa) fun b3=>(xk (ext1_ct q i r1 H)) <| (W) ?_; clear h ac; intro ac wo h
 exact xw 0 h (h.retP (u:=.tuple #[vEX ⟨qAt q i.lo,i.lo,true⟩,.int .i64 0]) rfl trivial)
instance cf163:Cf Tryz.prog 163:=⟨Tryz.call163⟩
theorem xq (a b:GR) (za:SzR 30 a) (zb:SzR 30 b) (w0:World):Calls Tryz.prog 163 #[vR a,vR b] w0 (dh w0 (.bool (decide (ah a b < 0))) True):=by
 refine enter (N:=9) (args:=[vR a,vR b]) Tryz.func163 rfl rfl ?_; intro ac h
 refine gz h <| (xb) fun b1=>(xb) fun b2=>(xk (aL a b 10 og za zb)) <| (W) ?_; clear h ac; intro ac wo h
 exact (rt h) (h.retP rfl trivial)
theorem mext1_ct (u:U Qd) (lv:Value) (r1:Bool) (H:E1 u.f u.iv r1) (w0:World) (hlv:View w0 lv [u]):Calls Tryz.prog 161 #[lv,.func (.func 162) #[] #[],.func (.func 163) #[] #[]] w0 (dh w0 (.tuple #[vEX ⟨qAt u.f u.iv.lo,u.iv.lo,true⟩,.int .i64 0]) True):=by
 refine enter (N:=60) (args:=[lv,.func (.func 162) #[] #[],.func (.func 163) #[] #[]]) Tryz.func161 rfl rfl ?_; intro ac h
 haveI:On:=⟨trivial⟩
 have hlen:=hlv.len
 have n1':NN lv 1:=hlv.nn (i:=0) (by show 0 < 1; decide)
 have c1:=yQ u.f u.iv r1 H
 refine gz h <| (xa) fun b1=>(ai) ?_ ?_ <;> clear h ac <;> intro ac wo h hc1
 · cases hc1
 obtain ⟨e,he⟩:∃ e:EX,(⟨qAt u.f u.iv.lo,u.iv.lo,true⟩:EX)=e:=⟨_,rfl⟩
 have ze:SzR 30 e.v:=by rw [← he]; exact wc (by decide) (rB H.bd H.lo (by decide)).2
 rw [he] at c1 ⊢
 refine gz h <| (xa) fun b2=>(W) ?_; clear h ac wo; intro ac wo h
 refine wp_loop_ghost (fun n_ a_ w_=>∃ (k:Nat) (x:EX),(1 - k < n_)∧(k≤1)∧(k=1→x=e)∧(k=0→x=oEX)∧St w0 60 [(1,.func (.func 162) #[] #[]),(2,.func (.func 163) #[] #[]),(6,ptr b1 0),(8,ptr b2 0),(17,lv),(18,iN 1),(19,iN k)] [.blk b2 (cEX x) 106,.blk b1 (cEX oEX) 106] a_ w_) 2 ⟨0,oEX,by omega,by omega,fun h=>by omega,fun _=>rfl,h.re [0,1]⟩ ?_
 clear h ac wo; rintro n1 ac wo ⟨k,x,hm1,hk,hx,hx0,h⟩
 obtain ⟨m1,rfl⟩:∃ m,n1=m+1:=⟨n1 - 1,by omega⟩
 refine gz h <| (ai) ?_ ?_ <;> clear h ac wo <;> intro ac wo h hc2
 ·
  have hd1:k < 1:=by have:=of_decide_eq_true hc2; omega
  obtain rfl:k=0:=by omega
  have hi0:0 < [u].length:=by show 0 < 1; decide
  refine gz h <| (xa) fun b3=>(W) ?_; clear h ac wo; intro ac wo h
  rw [show gt [u] 0=u from rfl] at h
  have cb:=xq e.v x.v ze (by rw [hx0 rfl]; exact SzR_d 30)
  refine gz h <| (xk c1) <| (xa) fun b4=>(xg (hs:=by exact fun hg=>fq enA (kk cb))) <| (ai) ?_ ?_ <;> clear h ac wo <;> intro ac wo h hc3
  · refine gz h <| (W) ?_; clear h ac wo; intro ac wo h
    exact az ⟨m1,by omega,1,e,by omega,by omega,fun _=>rfl,fun h=>by omega,h.re [2,3]⟩
  · cases hc3
 · have hke:k=1:=by have:=of_decide_eq_false hc2; omega
   have hx':=hx hke
   subst hx'
   refine gz h <| (W) ?_; clear h ac wo; intro ac wo h
   exact xw 1 h (h.retP (u:=.tuple #[vEX x,.int .i64 0]) rfl trivial)
end Go.Sx
namespace Go.Sx
open Go Go.RowKit Go.Proofs
set_option maxRecDepth 100000
set_option maxHeartbeats 8000000
def y8:U Qd:=⟨exI,exF⟩
def iv0:Iv:=⟨⟨oQ,oQ,false⟩,nN,false,true⟩
theorem bqd {q:GQ} (h:QOk q) (h1:q.num.mag < 2 ^ 60) (h2:jy q < 2 ^ 60):Bq 60 q:=Bq.self h h1 h2
theorem bq0:Bq 60 oQ:=Bq.zero (by decide)
theorem bq2:Bq 60 (⟨⟨false,2⟩,⟨false,0⟩⟩:GQ):=bqd (gu (by decide +kernel)) (by decide) (by decide +kernel)
theorem bq4:Bq 60 (⟨⟨false,4⟩,⟨false,0⟩⟩:GQ):=bqd (gu (by decide +kernel)) (by decide) (by decide +kernel)
theorem bqm:Bq 60 (⟨⟨true,2⟩,⟨false,0⟩⟩:GQ):=bqd (gu (by decide +kernel)) (by decide) (by decide +kernel)
theorem bq1:Bq 60 (⟨⟨false,1⟩,⟨false,0⟩⟩:GQ):=bqd (gu (by decide +kernel)) (by decide) (by decide +kernel)
theorem rb0:RBq 60 (⟨oQ,oQ,false⟩:GR):=⟨ok0,bq0,bq0⟩
theorem rb4:RBq 60 in4:=⟨ok4,bq4,bq0⟩
theorem rb2:RBq 60 nN:=⟨ok2,bq0,bq2⟩
theorem rbm:RBq 60 sqm2:=⟨okm,bq0,bq2⟩
theorem RBq.le {m n:Nat} {x:GR} (h:RBq m x) (hn:m≤n):RBq n x:=⟨h.1,h.2.1.le hn,h.2.2.le hn⟩
theorem bdF:BD 60 exF:=⟨bqm,bq0,bq1⟩
theorem tmwK:∀ x∈[(⟨oQ,oQ,false⟩:GR),in4,nN],TmW x:=by
 intro x hx
 have:RBq 60 x:=by
  simp only [List.mem_cons,List.not_mem_nil,or_false] at hx
  rcases hx with rfl | rfl | rfl
  · exact rb0
  · exact rb4
  · exact rb2
 exact ⟨this.1,this.2.1.le (by decide),this.2.2.le (by decide)⟩
abbrev tu:Key:=keyW [(⟨oQ,oQ,false⟩:GR),in4,nN] tmwK (by decide)
theorem tmE0:@Tm tu ⟨oQ,oQ,false⟩:=wt.2 (.inr (by simp))
theorem tmE4:@Tm tu in4:=wt.2 (.inr (by simp))
theorem tmE2:@Tm tu nN:=wt.2 (.inr (by simp))
theorem ltE {x y:GR} (hx:@Tm tu x) (hy:@Tm tu y) (h:ah x y=-1):@tk tu x < @tk tu y:=@uh tu x y hx hy h
theorem t02:@tk tu ⟨oQ,oQ,false⟩ < @tk tu nN:=ltE tmE0 tmE2 (by decide +kernel)
theorem t24:@tk tu nN < @tk tu in4:=ltE tmE2 tmE4 (by decide +kernel)
theorem wvI:@Wv tu exI:=⟨⟨tmE0,tmE4⟩,Nat.le_of_lt (Nat.lt_trans t02 t24),fun e=>absurd e (Nat.ne_of_lt (Nat.lt_trans t02 t24))⟩
theorem wv0:@Wv tu iv0:=⟨⟨tmE0,tmE2⟩,Nat.le_of_lt t02,fun e=>absurd e (Nat.ne_of_lt t02)⟩
theorem cn_one [K:Key] {i:Iv} (h:Wv i):Cn [i]:=⟨fun j hj=>by rw [List.mem_singleton.1 hj]; exact h,List.pairwise_singleton _ _⟩
theorem sY [K:Key] {i:Iv} (h:Wv i):bo [i]=[i]:=by
 obtain ⟨a,b⟩:=kP (a:=[i]) (fun j hj=>by rw [List.mem_singleton.1 hj]; exact h)
 exact Cn.ext a (cn_one h) b
theorem in_E:@dp tu [exI] [iv0]=[iv0]:=by
 letI:Key:=tu
 obtain ⟨a,b⟩:=yT (a:=[exI]) (b:=[iv0]) (fun j hj=>by rw [List.mem_singleton.1 hj]; exact wvI) (fun j hj=>by rw [List.mem_singleton.1 hj]; exact wv0)
 refine Cn.ext a (cn_one wv0) fun x=>?_
 rw [b]
 refine ⟨fun h=>h.2,fun h=>⟨inP_1.2 ?_,h⟩⟩
 have:=inP_1.1 h
 unfold inI at this ⊢
 rw [fst_kB,lst_kB] at this ⊢
 have h1:=t02; have h2:=t24
 have e1:2*tk (⟨oQ,oQ,false⟩:GR)+0≤x∧x < 2*tk nN+0:=this
 show 2*tk (⟨oQ,oQ,false⟩:GR)+0≤x∧x < 2*tk in4+1
 omega
theorem ex_ref:ef [y8] [⟨exI,an oQ⟩]=[(⟨exI,exF,an oQ⟩:Bt Qd Qd)]:=by decide +kernel
theorem ex_sub:cC exF (an oQ)=exF:=by decide +kernel
theorem ex_const:aF ([exI].map (o8 oQ))=([(⟨exI,an oQ⟩:U Qd)],0):=by decide +kernel
theorem y7:bQ [y8]=[exI]:=by decide +kernel
theorem exE1:E1 exF exI true where
 bd:=⟨bqm.le (by decide),bq0.le (by decide),bq1.le (by decide)⟩
 lo:=rb0.le (by decide)
 hi:=rb4.le (by decide)
 ck:=by decide +kernel
 dv:=by decide +kernel
 no:=by decide +kernel
 c2:=by decide +kernel
 l0:=by decide +kernel
 l1:=by decide +kernel
 r:=⟨rfl,by decide +kernel⟩
theorem ex_at:qAt exF exI.lo=sC (-2):=by decide +kernel
end Go.Sx
namespace Go.Sx
open Go Go.RowKit Go.Proofs
set_option maxRecDepth 100000
set_option maxHeartbeats 8000000
structure Sh2 (x y:GR) (nx:GQ):Prop where
 sx:decide (kF x < 0)=false
 sy:decide (kF y≤0)=false
 fl:(ab (ab (aa x.p) (aa x.p)) (ab (ag x.r) (aa x.r))).mag < 4
 fz:(eG x).mag < 256
 wn:jR (aH (eG x) (aw 1))=nx
 cr:decide (iX y nx>0)=true
 cm:decide (ah x y≥0)=false
 zx:RBq 90 x
 zy:RBq 90 y
theorem exsh1:Sh2 ⟨oQ,oQ,false⟩ nN ⟨⟨false,1⟩,⟨false,0⟩⟩:=⟨by decide +kernel,by decide +kernel,by decide +kernel,by decide +kernel,by decide +kernel,by decide +kernel,by decide +kernel,rb0.le (by decide),rb2.le (by decide)⟩
theorem exsh2:Sh2 nN in4 ⟨⟨false,2⟩,⟨false,0⟩⟩:=⟨by decide +kernel,by decide +kernel,by decide +kernel,by decide +kernel,by decide +kernel,by decide +kernel,by decide +kernel,rb2.le (by decide),rb4.le (by decide)⟩
theorem exsg1:sO exF (aQ ⟨⟨false,1⟩,⟨false,0⟩⟩)=-1:=by decide +kernel
theorem exsg2:sO exF (aQ ⟨⟨false,2⟩,⟨false,0⟩⟩)=1:=by decide +kernel
attribute [local irreducible] Code.wp wpList Rd Step ObS Ent
attribute [local irreducible] ah ak aq an bN aQ
attribute [local irreducible] aH aw
theorem sh2_ct {x y:GR} {nx:GQ} (H:Sh2 x y nx) (w0:World):Calls Tryz.prog 290 #[vR x,vR y] w0 (dh w0 (vQ nx) True):=by
 have zx:=H.zx.sz (by decide)
 have zy:=H.zy.sz (by decide)
 have iz:SzI 40 (eG x):=by
  show SzB 40 _
  unfold SzB
  have:(le (eG x).mag).length≤1:=(cS 1 _).2 H.fz
  omega
 have cx:=lJ x (dG zx og)
 have cy:=lJ y (dG zy og)
 have cf:=rr x ⟨H.fl,iz⟩ (dG zx og)
 have c1:=eR 1 40 og og
 have z1:=ar (c1 w0)
 have ca:=fJ (eG x) (aw 1) 36 og (fV iz og) (fV z1 og)
 have cw:=rq (aH (eG x) (aw 1)) (ar (ca w0))
 rw [H.wn] at cw
 have cc:=nf y nx (dG zy og) (di (ar (cw w0)) og)
 refine enter (N:=81) (args:=[vR x,vR y]) Tryz.func290 rfl rfl ?_; intro ac hh
 refine gz hh <| (xb) fun b1=>(xb) fun b2=>(xa) fun b3=>(xk cx) <| (xg (hs:=by exact fun hg=>fq enA (kk cy))) <| (ai) ?_ ?_ <;> clear hh ac <;> intro ac wo hh hc1
 · rw [H.sx] at hc1; cases hc1
 refine gz hh <| (xk cy) <| (ai) ?_ ?_ <;> clear hh ac wo <;> intro ac wo hh hc2
 · rw [H.sy] at hc2; cases hc2
 refine gz hh <| (xk cf) <| (xa) fun b4=>(W) ?_; clear hh ac wo; intro ac wo hh
 replace hh:St w0 81 [(2,ptr b1 0),(3,ptr b2 0),(4,ptr b3 0),(5,ptr b4 0)] [.blk b4 (cI (eG x)) 27,.blk b3 (cQ oQ) 29,.blk b2 (cR y) 46,.blk b1 (cR x) 46] ac wo:=hh.re [0,1,2,3]
 replace hh:=hh.emps 1
 refine fU mixed [dw _ [0],dv _,dv _,dv _,⟨.nd (.one 4 fun x=>∃ b,x=ptr b 0),[4]⟩,dw undef [4]] [⟨_,[]⟩,⟨_,[]⟩,⟨_,[]⟩,⟨_,[]⟩,⟨.emp,[(4,.one 4 fun x=>.blk (bR x) (cQ oQ) 29),(5,.one 4 fun y=>.blk (bR y) (cQ nx) 29)]⟩] hh rfl (by kernel_rfl)
  ⟨oA obA,oA (fun _=>i0 (iC Tryz.call199 rfl c1)),oA (fun _=>i0 (iC Tryz.call210 rfl ca)),oA (fun _=>i0 (iC Tryz.call326 rfl cw)),fun _ _=>pS 4 rfl (fun _=>rfl),fun ξ hφ=>pQ (u:=vQ nx) 4 (hφ 4 rfl) rfl rfl rfl rfl rfl rfl rfl,trivial⟩ ?_
 clear hh ac wo; intro ξ ac wo hφ hh
 obtain ⟨b5,hb5⟩:∃ b,ξ 4=ptr b 0:=hφ 4
 replace hh:St w0 81 [(2,ptr b1 0),(3,ptr b2 0),(4,ptr b3 0),(5,ptr b4 0),(6,ξ 4)] [.blk b4 (cI (eG x)) 27,.blk b3 (cQ oQ) 29,.blk b2 (cR y) 46,.blk b1 (cR x) 46,.blk (bR (ξ 4)) (cQ nx) 29] ac wo:=hh.sub ⟨rfl,rfl,rfl,rfl,rfl,trivial⟩
 rw [hb5] at hh
 clear hb5 hφ ξ
 refine gz hh <| (xk cc) <| (ai) ?_ ?_ <;> clear hh ac wo <;> intro ac wo hh hc3
 · refine gz hh <| (W) ?_; clear hh ac wo; intro ac wo hh
   exact rtc 1 hh (hh.retP (u:=vQ nx) rfl trivial)
 · rw [H.cr] at hc3; cases hc3
theorem aae {x y:GR} {nx:GQ} (H:Sh2 x y nx) (w0:World):Calls Tryz.prog 241 #[vR x,vR y] w0 (dh w0 (.tuple #[vQ nx,.int .i64 0]) True):=by
 have cc:=aL x y 10 og (dG (H.zx.sz (by decide)) og) (dG (H.zy.sz (by decide)) og)
 refine enter (N:=14) (args:=[vR x,vR y]) Tryz.func241 rfl rfl ?_; intro ac h
 refine gz h <| (xb) fun b1=>(xb) fun b2=>(xa) fun b3=>(xk cc) <| (ai) ?_ ?_ <;> clear h ac <;> intro ac wo h hc1
 · rw [H.cm] at hc1; cases hc1
 refine gz h <| (xk (sh2_ct H)) <| (W) ?_; clear h ac wo; intro ac wo h
 exact xw 0 h (h.retP (u:=.tuple #[vQ nx,.int .i64 0]) rfl trivial)
def exSg (i:Iv):Int:=bif decide (i=iv0) then -1 else 1
def exG (i:Iv):Prop:=i=iv0∨i=⟨nN,in4,true,false⟩
theorem exS_ct (i:Iv) (h:exG i) (w0:World):Calls Tryz.prog 306 #[vD exF,vV i] w0 (dh w0 (vPc ⟨i,exSg i⟩) True):=by
 rcases h with rfl | rfl
 · have:=yx (T:=1) exF iv0 _ 0 bdF (by decide) (rb0.le (by decide)) ⟨gu (by decide +kernel),bq1.le (by decide)⟩ (aae exsh1) w0
   rw [show ((0:Int) == 0)=true from rfl,cond_true,exsg1] at this
   exact this
 · have:=yx (T:=1) exF ⟨nN,in4,true,false⟩ _ 0 bdF (by decide) (rb2.le (by decide)) ⟨gu (by decide +kernel),bq2.le (by decide)⟩ (aae exsh2) w0
   rw [show ((0:Int) == 0)=true from rfl,cond_true,exsg2] at this
   exact this
end Go.Sx
