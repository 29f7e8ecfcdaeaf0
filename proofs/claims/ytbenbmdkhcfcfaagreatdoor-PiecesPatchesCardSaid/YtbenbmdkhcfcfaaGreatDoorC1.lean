import Derived.Test.YtbenbmdkhcfcfaaGreatDoorProg
import Derived.Test.YtbenbmdkhcfcfaaGreatDoorR1
import Derived.Test.YtbenbmdkhcfcfaaGreatDoorCo
import Derived.Test.YtbenbmdkhcfcfaaGreatDoorS1
set_option linter.unusedVariables false
set_option linter.unusedSimpArgs false
namespace Go.Sx
open Go Go.RowKit Go.Proofs
set_option maxRecDepth 100000
set_option maxHeartbeats 40000000
attribute [local irreducible] Code.wp wpList Rd gW ObS Ent
attribute [local irreducible] an bB ah aO az c8
def ce (l:List (U Qd)):(List (U Qd)) :=
 (aV l).1
theorem jA (l:List (U Qd)) (lv:Value) (hl:l.length≤300) (zl:All (gk 30) l) (w0:World) (hlv:View w0 lv l):Calls Tryz.prog 117 #[(.iface 55 (.agg #[])),lv] w0 (RetR w0 126 (ce l) (All (gk 20) (ce l)∧(ce l).length≤3*l.length)):=by
 refine enter (N:=14) Tryz.func117 rfl rfl ?_; intro ac h
 have hlenl:=hlv.len
 refine gz h <| (W) ?_; clear h; intro _ _ h
 have s1:=RetT.pr ((fun w_ hB_ hS_=>ej l lv og zl w_ (hlv.below hB_)) _ h.bel h.sep)
 have p2:=s1.2
 refine yO (xs:=(aV l).1) h (ck Tryz.call55 rfl) (fun w_ hB_ hS_=>ej l lv og zl w_ (hlv.below hB_)) rfl ?_; clear h; intro sv3 _ _ _ h
 exact (rx h) fun _ _ h=>(by unfold ce; exact h.retR 0 rfl ⟨s1.1,og⟩)
attribute [irreducible] ce
def iA (l:List (U Qd)) (x16:Nat):Int :=
 bif ((((aV l).2) != 0) || (!(fc l ((aV l).1)))) then
  5
 else
  0
def fv (l:List (U Qd)) (x16:Nat):Nx Nat Int :=
 bif (decide ((x16:Int) < (l.length:Int))) then
  bif ((cu ((gt l x16).iv)) != 0) then
   .ret (cu ((gt l x16).iv))
  else
   bif ((dE ((gt l x16).f)) != 0) then
    .ret (dE ((gt l x16).f))
   else
    bif ((decide ((x16:Int)>0)) && (!(dI ((gt l (x16 - 1)).iv) ((gt l x16).iv)))) then
     .ret 7
    else
     .go (x16+1)
 else
  .out x16
def dm (l:List (U Qd)):Int :=
 bif (decide ((l.length:Int)>256)) then
  3
 else
  fin (bt (fun s=>fv l s) ((l.length - 0)+1) 0) (fun s=>iA l s) (fun r=>r)
theorem mj (l:List (U Qd)) (lv:Value) (hl:l.length≤300) (hv:∀ j,RtV (gt l j).iv) (zl:All (gk 30) l) (w0:World) (hlv:View w0 lv l):Calls Tryz.prog 34 #[(.iface 55 (.agg #[])),lv] w0 (RetP w0 (.int .i64 (dm l)) (True)):=by
 refine enter (N:=64) Tryz.func34 rfl rfl ?_; intro ac h
 have hlenl:=hlv.len
 refine gz h <| (ai) ?_ ?_ <;> clear h <;> intro _ _ h hc1
 ·
  have hd1:=of_decide_eq_true hc1
  have hd:dm l=3:=pt
  exact (rx h) fun _ _ h=>(h.retP (by rw [hd] <;> rfl) trivial)
 ·
  have hd1:=of_decide_eq_false hc1
  obtain ⟨X1,hX1⟩:∃ X,bt (fun s=>fv l s) ((l.length - 0)+1) 0=X:=⟨_,rfl⟩
  refine gz h <| (W) ?_; clear h; intro _ _ h
  refine wp_loop_ghost (fun n_ a_ w_=>∃ (x16:Nat),((l.length - x16) < n_)∧(bt (fun s=>fv l s) n_ x16=X1)∧(x16≤l.length)∧St w0 64 [(0,(.iface 55 (.agg #[]))),(1,lv),(14,lv),(15,(iN l.length)),(16,(iN x16))] [] a_ w_) ((l.length - 0)+1) ⟨0,og,hX1,og,h.rs⟩ ?_
  clear h; rintro n1 _ _ ⟨x16,hm1,hL1,hx16,h⟩
  obtain ⟨m1,rfl⟩:∃ m,n1=m+1:=⟨n1 - 1,by omega⟩
  refine gz h <| (ai) ?_ ?_ <;> clear h <;> intro _ _ h hc2
  ·
   have hd2:=of_decide_eq_true hc2
   refine gz h <| (xa) fun b1=>(xk (lH ((gt l x16).iv) (hv _) (All.gt zl (bL _)).1)) <| (ai) ?_ ?_ <;> clear h <;> intro _ _ h hc3
   ·
    have q:=hc3; try simp at q
    have hr1:=iH hL1 pt
    have hd:dm l=(cu ((gt l x16).iv)):=pt
    exact (rx h) fun _ _ h=>(h.retP (by rw [hd] <;> rfl) trivial)
   ·
    have q:=hc3; try simp at q
    refine gz h <| (xk (mi ((gt l x16).f) (All.gt zl (bL _)).2)) <| (ai) ?_ ?_ <;> clear h <;> intro _ _ h hc4
    ·
     have q:=hc4; try simp at q
     have hr1:=iH hL1 pt
     have hd:dm l=(dE ((gt l x16).f)):=pt
     exact (rx h) fun _ _ h=>(h.retP (by rw [hd] <;> rfl) trivial)
    ·
     have q:=hc4; try simp at q
     refine gz h <| (dr0 (hob:=(oG (by exact fun hg=>mh ((gt l (x16 - 1)).iv) ((gt l x16).iv) 10 og (All.gt zl (bL _)).1 (All.gt zl (bL _)).1)) <| oE)) <| (ai) ?_ ?_ <;> clear h <;> intro _ _ h hc5
     ·
      have q:=hc5; try simp at q
      have hr1:=iH hL1 pt
      have hd:dm l=7:=pt
      exact (rx h) fun _ _ h=>(h.retP (by rw [hd] <;> rfl) trivial)
     ·
      have q:=hc5; try simp at q
      have hg:=bI hL1 pt
      exact (nx h) fun _ _ h=>by exact ⟨m1,og,_,og,hg,og,h.re []⟩
  ·
   have hd2:=of_decide_eq_false hc2
   have hx1:=cG hL1 pt
   refine gz h <| (W) ?_; clear h; intro _ _ h
   have s1:=RetT.pr ((fun w_ hB_ hS_=>ej l lv og zl w_ (hlv.below hB_)) _ h.bel h.sep)
   have p2:=s1.2
   refine yO (xs:=(aV l).1) h (ck Tryz.call55 rfl) (fun w_ hB_ hS_=>ej l lv og zl w_ (hlv.below hB_)) rfl ?_; clear h; intro sv3 _ _ _ h
   refine gz h <| (xg (hs:=by exact fun hg=>fB enA (fun w_ hB_ hS_=>mY l lv ((aV l).1) sv3 (All.mono zl (fun _ h_=>rZ h_ og)) s1.1 w_ (hlv.below hB_) (row_view hS_ 0 rfl)))) <| (ai) ?_ ?_ <;> clear h <;> intro _ _ h hc6
   ·
    have q:=hc6; try simp at q
    have hd:dm l=5:=pt
    exact (rx h) fun _ _ h=>(h.retP (by rw [hd] <;> rfl) trivial)
   ·
    have q:=hc6; try simp at q
    have hd:dm l=0:=pt
    exact (rx h) fun _ _ h=>(h.retP (by rw [hd] <;> rfl) trivial)
attribute [irreducible] dm
end Go.Sx
namespace Go.Sx
theorem tW {γ:Type} [Inhabited γ] {N:List (U γ)} (ho:N.Pairwise fun a b=>ec a.iv < (dL b.iv:Int)) {p q:Nat} (h:p < q) (hq:q < N.length):ec (gt N p).iv < (dL (gt N q).iv:Int):=by
 have:=List.pairwise_iff_getElem.1 ho p q og hq h
 rw [fL og,fL hq]; exact this
theorem rD {x y:Iv} (hx:Wv x) (hy:Wv y) (h:(bf x y).2=true) :
 Wv (bf x y).1∧∀ q,inU (bf x y).1 q↔inU x q∧inU y q:=by
 rw [ua hx.1 hy.1] at h ⊢
 have hk:=of_decide_eq_true h
 have tF:Tm (mF x y).at_:=by unfold mF; split; · rw [pf]; exact hy.1.1
                             ·rw [pf]; exact hx.1.1
 have tL:Tm (mL x y).at_:=by unfold mL; split; · rw [pl]; exact hy.1.2
                             ·rw [pl]; exact hx.1.2
 have e1:dL (bD (mF x y) (mL x y))=kB (mF x y):=by unfold bD; rfl
 have e2:ec (bD (mF x y) (mL x y))=(kB (mL x y):Int) - 1:=by
  unfold bD ec kB
  cases (mL x y).behind <;> simp <;> omega
 have hF:kB (mF x y)=max (kB (aI x)) (kB (aI y)):=by unfold mF; split <;> omega
 have hL:kB (mL x y)=min (kB (aG x)) (kB (aG y)):=by unfold mL; split <;> omega
 constructor
 ·refine ⟨⟨by unfold bD; exact tF,by unfold bD; exact tL⟩,?_,?_⟩
  ·unfold bD; dsimp only
   unfold kB at hk
   cases h1:(mF x y).behind <;> cases h2:(mL x y).behind <;> rw [h1,h2] at hk <;> simp at hk <;> omega
  ·unfold bD; dsimp only
   intro e
   unfold kB at hk
   rw [e] at hk
   cases h1:(mF x y).behind <;> cases h2:(mL x y).behind <;> rw [h1,h2] at hk <;> simp only [cond_true,cond_false] at hk <;> first | (exfalso; omega) | simp
 ·intro q
  unfold inU
  rw [e1,e2,hF,hL]
  have a1:=kO x
  have a2:=kO y
  have b1:=mu x
  have b2:=mu y
  omega
theorem meet_no {x y:Iv} (hx:Wv x) (hy:Wv y) (h:(bf x y).2=false):∀ q,¬ (inU x q∧inU y q):=by
 rw [ua hx.1 hy.1] at h
 have hk:=of_decide_eq_false h
 have hF:kB (mF x y)=max (kB (aI x)) (kB (aI y)):=by unfold mF; split <;> omega
 have hL:kB (mL x y)=min (kB (aG x)) (kB (aG y)):=by unfold mL; split <;> omega
 intro q ⟨h1,h2⟩
 unfold inU at h1 h2
 have a1:=kO x
 have a2:=kO y
 have b1:=mu x
 have b2:=mu y
 omega
section
variable {α β:Type} [Inhabited α] [Inhabited β]
theorem rf_mem {u:List (U α)} {v:List (U β)} {x:Bt α β}:x∈rfA (rfQ u v) v.length u.length 0↔∃ i k,i < u.length∧k < v.length∧(bf (gt u i).iv (gt v k).iv).2=true∧x=⟨(bf (gt u i).iv (gt v k).iv).1,(gt u i).f,(gt v k).f⟩:=by
 unfold rfA
 simp only [List.range_zero,List.flatMap_nil,List.append_nil,List.mem_flatMap,List.mem_range]
 constructor
 ·rintro ⟨i,hi,k,hk,hx⟩
  unfold rfQ at hx
  rw [decide_eq_true hi] at hx
  cases h:(bf (gt u i).iv (gt v k).iv).2 with
  | false=>rw [h] at hx; cases hx
  | true=>rw [h] at hx; exact ⟨i,k,hi,hk,h,List.mem_singleton.1 hx⟩
 ·rintro ⟨i,k,hi,hk,h,rfl⟩
  refine ⟨i,hi,k,hk,?_⟩
  unfold rfQ
  rw [decide_eq_true hi,h]; exact List.mem_singleton.2 rfl
theorem rf_ord {u:List (U α)} {v:List (U β)} (hu:Od u) (hv:Od v):(rfA (rfQ u v) v.length u.length 0).Pairwise fun a b=>ec a.iv < (dL b.iv:Int):=by
 have key:∀ i i' k k' x y,x∈rfQ u v i k→y∈rfQ u v i' k'→k < v.length→k' < v.length→(i < i'∨i=i'∧k < k')→ec x.iv < (dL y.iv:Int):=by
  intro i i' k k' x y hx hy hk hk' h
  unfold rfQ at hx hy
  by_cases hi:i < u.length
  ·by_cases hi':i' < u.length
   ·rw [decide_eq_true hi] at hx
    rw [decide_eq_true hi'] at hy
    cases h1:(bf (gt u i).iv (gt v k).iv).2 with
    | false=>rw [h1] at hx; cases hx
    | true =>
     cases h2:(bf (gt u i').iv (gt v k').iv).2 with
     | false=>rw [h2] at hy; cases hy
     | true =>
      rw [h1] at hx; rw [h2] at hy
      rw [List.mem_singleton.1 hx,List.mem_singleton.1 hy]
      obtain ⟨w1,p1⟩:=rD (hu.gt hi) (hv.gt hk) h1
      obtain ⟨w2,p2⟩:=rD (hu.gt hi') (hv.gt hk') h2
      have c0:(0:Int)≤ec (bf (gt u i).iv (gt v k).iv).1:=Int.le_trans (Int.natCast_nonneg _) w1.le
      have q1:=(p1 (ec (bf (gt u i).iv (gt v k).iv).1).toNat).1 ⟨by have:=w1.le; omega,by omega⟩
      have q2:=(p2 (dL (bf (gt u i').iv (gt v k').iv).1)).1 ⟨Nat.le_refl _,w2.le⟩
      show ec (bf (gt u i).iv (gt v k).iv).1 < (dL (bf (gt u i').iv (gt v k').iv).1:Int)
      rcases h with h | ⟨rfl,h⟩
      ·have o:=tW hu.ord h hi'
       have:=q1.1.2; have:=q2.1.1
       omega
      ·have o:=tW hv.ord h hk'
       have:=q1.2.2; have:=q2.2.1
       omega
   ·rw [decide_eq_false hi'] at hy; cases hy
  ·rw [decide_eq_false hi] at hx; cases hx
 unfold rfA
 rw [List.range_zero,List.flatMap_nil,List.append_nil,List.pairwise_flatMap]
 refine ⟨fun i _=>?_,List.pairwise_lt_range.imp fun {i i'} h x hx y hy=>?_⟩
 ·rw [List.pairwise_flatMap]
  refine ⟨fun k hk=>?_,List.pairwise_lt_range.imp_of_mem fun {k k'} hk hk' h x hx y hy=>key i i k k' x y hx hy (List.mem_range.1 hk) (List.mem_range.1 hk') (.inr ⟨rfl,h⟩)⟩
  unfold rfQ
  cases decide (i < u.length)
  ·exact .nil
  ·cases (bf (gt u i).iv (gt v k).iv).2
   ·exact .nil
   ·exact List.pairwise_singleton _ _
 ·obtain ⟨k,hk,hx⟩:=List.mem_flatMap.1 hx
  obtain ⟨k',hk',hy⟩:=List.mem_flatMap.1 hy
  exact key i i' k k' x y hx hy (List.mem_range.1 hk) (List.mem_range.1 hk') (.inl h)
end
end Go.Sx
namespace Go.Sx
section
variable {α:Type} [Inhabited α] {eqf:α→α→Bool} {same:α→α→GR→Bool} {red:α→GR→α}
theorem step_mem {L out:List (U α)} {x:Nat} {u:U α} (hu:u∈du eqf same red L out x):u∈out∨(0 < out.length∧u.f=(gt out (out.length - 1)).f)∨u.f=(gt L x).f∨u.f=red (gt L x).f (gt L x).iv.lo:=by
 have hs:∀ z:U α,u∈out.set (out.length - 1) z→z.f=(gt out (out.length - 1)).f→u∈out∨(0 < out.length∧u.f=(gt out (out.length - 1)).f):=fun z hu' hz=>by
  rcases List.mem_or_eq_of_mem_set hu' with h | h
  ·exact .inl h
  ·by_cases h0:0 < out.length
   ·exact .inr ⟨h0,by rw [h,hz]⟩
   ·exact absurd (List.length_pos_of_mem hu') (by rw [List.length_set]; exact h0)
 have ha:∀ z:U α,u∈out++[z]→(z.f=(gt L x).f∨z.f=red (gt L x).f (gt L x).iv.lo)→u∈out∨u.f=(gt L x).f∨u.f=red (gt L x).f (gt L x).iv.lo:=fun z h hz=>by
  rcases List.mem_append.1 h with h | h
  ·exact .inl h
  ·rw [List.mem_singleton.1 h]; exact .inr hz
 have wa:(u∈out∨u.f=(gt L x).f∨u.f=red (gt L x).f (gt L x).iv.lo)→u∈out∨(0 < out.length∧u.f=(gt out (out.length - 1)).f)∨u.f=(gt L x).f∨u.f=red (gt L x).f (gt L x).iv.lo:=fun h=>by
  rcases h with h | h
  ·exact .inl h
  ·exact .inr (.inr h)
 have ws:(u∈out∨(0 < out.length∧u.f=(gt out (out.length - 1)).f))→u∈out∨(0 < out.length∧u.f=(gt out (out.length - 1)).f)∨u.f=(gt L x).f∨u.f=red (gt L x).f (gt L x).iv.lo:=fun h=>by
  rcases h with h | h
  ·exact .inl h
  ·exact .inr (.inl h)
 simp only [du,jo,ku,Bool.cond_eq_ite] at hu
 repeat' split at hu
 all_goals first | exact .inl hu | exact wa (ha _ hu (.inl rfl)) | exact wa (ha _ hu (.inr rfl)) | exact ws (hs _ hu rfl)
theorem norm_f {L:List (U α)}:∀ k,k≤L.length→∀ u∈et (du eqf same red L) [] k,∃ i,i < L.length∧(u.f=(gt L i).f∨u.f=red (gt L i).f (gt L i).iv.lo)
 | 0,_,u,hu=>by cases hu
 | k+1,hk,u,hu=>by
  have ih:∀ u∈et (du eqf same red L) [] k,∃ i,i < L.length∧(u.f=(gt L i).f∨u.f=red (gt L i).f (gt L i).iv.lo):=norm_f k og
  have hu:u∈du eqf same red L (et (du eqf same red L) [] k) k:=hu
  generalize et (du eqf same red L) [] k=out at *
  rcases step_mem hu with h | ⟨h0,h⟩ | h
  ·exact ih u h
  ·rw [h]; exact ih _ (j9 og)
  ·exact ⟨k,by omega,h⟩
end
def Bf (B:Nat) (f:Qd):Prop:=DOk f∧RB B (gM f.c0)∧RB B (gM f.c1)∧RB B (gM f.c2)
theorem Bf.mono {B C:Nat} {f:Qd} (h:Bf B f) (hc:B≤C):Bf C f:=⟨h.1,h.2.1.mono hc,h.2.2.1.mono hc,h.2.2.2.mono hc⟩
theorem Bf.sz {n:Nat} {f:Qd} (h:Bf (256 ^ n - 1) f) (hn:n*2 ^ 30≤70368744177664):SzD 30 f :=
 ⟨qZ h.1.1 h.2.1 hn,qZ h.1.2.1 h.2.2.1 hn,qZ h.1.2.2 h.2.2.2 hn⟩
def tsm (x:GR):Bool:=decide (x.p.num.mag≤1024∧o7 x.p≤1024∧x.r.num.mag≤1024∧o7 x.r≤1024)
theorem tm_rb {t:GR} (ht:Tm t):RB 1024 (gM t.p)∧RB 1024 (gM t.r):=by
 have h:=qE (p:=tsm) (by decide +kernel) ht
 obtain ⟨h1,h2,h3,h4⟩:=of_decide_eq_true h
 have ok:=ma ht
 rw [oa ok.1,oa ok.2]
 exact ⟨⟨by show (iV t.p.num).natAbs≤1024; rw [kv]; exact h1,h2⟩,⟨by show (iV t.r.num).natAbs≤1024; rw [kv]; exact h3,h4⟩⟩
theorem uK {B:Nat} {f:Qd} {t:GR} (hB:1≤B) (hf:Bf B f) (ht:Tm t):Bf (4294967296*(B*B*B)) (ar f t):=by
 obtain ⟨hd,b0,b1,b2⟩:=hf
 obtain ⟨rp,rr⟩:=tm_rb ht
 obtain ⟨k0,k1,k2,k3⟩:=jY hd (ma ht)
 have z:RB 1 (0:Rat):=⟨Nat.zero_le _,Nat.le_refl _⟩
 have m1:B*B≤B*B*B:=Nat.le_mul_of_pos_right _ hB
 have m2:B≤B*B:=Nat.le_mul_of_pos_right _ hB
 unfold ar Bf
 rw [k1,k2,k3,lW.2]
 refine ⟨k0,?_,?_,z.mono og⟩
 ·unfold lv
  split
  ·refine (b0.add (rp.mul (b1.add (rp.mul b2)))).mono ?_
   have:2*(B*(1024*(2*(B*(1024*B)))))=4194304*(B*B*B):=by grind
   omega
  ·refine (b0.add (b2.mul (rr.sub (rp.mul rp)))).mono ?_
   have:2*(B*(B*(2*(1024*(1024*1024)))))=4294967296*(B*B):=by grind
   omega
 ·unfold lv
  split
  ·exact z.mono og
  ·refine (b1.add ((b2.add b2).mul rp)).mono ?_
   have:2*(B*(2*(B*B)*1024))=4096*(B*B*B):=by grind
   omega
end Go.Sx
namespace Go.Sx
def fsm (a:GQ):Bool:=decide (a.num.mag≤8∧o7 a≤8)
theorem ya {a:GQ} (h:QOk a) (hs:fsm a=true):RB 8 (gM a):=by
 obtain ⟨h1,h2⟩:=of_decide_eq_true hs
 rw [oa h]
 exact ⟨by show (iV a.num).natAbs≤8; rw [kv]; exact h1,h2⟩
theorem fs_bf {f:Qd} (hf:Fs f):Bf 8 f:=by
 have hd:=fs_ok hf
 obtain ⟨a,ha,b,hb,c,hc,rfl⟩:=fs_qd hf
 have h:(J3.all fun a=>J2.all fun b=>J1.all fun c=>fsm (qd a b c).c0 && fsm (qd a b c).c1 && fsm (qd a b c).c2)=true:=by decide +kernel
 have:=List.all_eq_true.1 (List.all_eq_true.1 (List.all_eq_true.1 h a ha) b hb) c hc
 rw [Bool.and_eq_true,Bool.and_eq_true] at this
 exact ⟨hd,ya hd.1 this.1.1,ya hd.2.1 this.1.2,ya hd.2.2 this.2⟩
def nb (l:List Stp):List (U Qd):=bo (aM l)
theorem iU (l:List Stp):Od (nb l):=⟨(tz l).1.wv,(tz l).1.ord⟩
theorem nb_bf (l:List Stp):∀ x∈nb l,Bf 2199023255552 x.f:=fun x hx=>by
 have hE:=(mT (l:=(aM l).map (·.iv)) (fun i hi=>by obtain ⟨x,hx,rfl⟩:=List.mem_map.1 hi; exact (qU l x hx).1.1)).1
 unfold nb bo at hx
 rw [kq,mC,mU] at hx
 obtain ⟨i,hi,hh,hf⟩:=um _ (Nat.le_refl _) x hx
 have hl:(iJ (default:Qd) (aM l) (kH ((aM l).map (·.iv)))).length=(f7 (default:Qd) (kH ((aM l).map (·.iv)))).length:=by unfold iJ; rw [List.length_map]
 have hb:gt (f7 (default:Qd) (kH ((aM l).map (·.iv)))) i∈f7 (default:Qd) (kH ((aM l).map (·.iv))):=by rw [fL (hl ▸ hi)]; exact List.getElem_mem _
 have hT:=(rX hE hb).1
 rw [lN hi] at hh hf
 have hfs:Fs (kz (aM l) (gt (f7 default (kH ((aM l).map (·.iv)))) i)).f:=by
  rcases nS _ _ hh with ⟨h1,_⟩ | ⟨y,hy,h2⟩
  ·rcases ko.1 hb with ⟨t,_,e⟩ | ⟨t,t',_,e⟩
   ·rw [e] at h1; cases h1
   ·rw [e] at h1; cases h1
  ·rw [h2]; exact ((kP l).1 y hy).2
 rcases hf with e | e
 ·rw [e]; exact (fs_bf hfs).mono DC
 ·rw [e,(gD _ _).1]; exact (uK DC (fs_bf hfs) hT).mono DC
theorem uV (l:List Stp) (h:(aM l).length≤16):(nb l).length≤16:=Nat.le_trans (bn_len l) h
theorem wJ {i:Iv} (h:Wv i):SzV 30 i:=⟨cr (nW h.1.1) DC,cr (nW h.1.2) DC⟩
end Go.Sx
namespace Go.Sx
theorem kU_lt {α:Type} {a b:U α} (ha:Wv a.iv) (hb:Wv b.iv) (h:ec a.iv < (dL b.iv:Int)):kU a.iv < kU b.iv:=by
 have h1:=ha.le
 have h2:=tM ha.1.2
 have e:∀ i:Iv,kU i=dL i*100000+tk i.hi:=fun i=>by unfold kU dL; omega
 rw [e,e]
 have:dL a.iv < dL b.iv:=by omega
 have:=Nat.mul_le_mul_right 100000 (show dL a.iv+1≤dL b.iv from this)
 rw [Nat.add_mul] at this
 omega
theorem nB {n:List (U Qd)} (hW:∀ x∈n,Wv x.iv) (ho:n.Pairwise fun a b=>ec a.iv < (dL b.iv:Int)):ag n=n∧ao n=n :=
 oM (fun u hu=>(hW u hu).1) (.refl _) (ho.imp_of_mem fun ha hb h=>kU_lt (hW _ ha) (hW _ hb) h)
theorem xH {n:List (U Qd)} (hW:∀ x∈n,Wv x.iv∧DOk x.f) (ho:n.Pairwise fun a b=>ec a.iv < (dL b.iv:Int)) :
 aV n=(et (du aX aB ar (n.flatMap atU)) [] (n.flatMap atU).length,0):=by
 obtain ⟨e1,e2⟩:=nB (fun x hx=>(hW x hx).1) ho
 rw [mM (e1.trans e2.symm),ii (by rw [e2]) fun i h0 h1=>by
  rw [e2,mI (hW _ (j9 og)).1.1 (hW _ (j9 h1)).1.1]
  exact decide_eq_true (tW ho og h1),ij,jL,e2]
structure NFs (n N:List (U Qd)):Prop where
 nf:NF aX aB ar N
 ok:∀ x∈N,DOk x.f
 sem:Sem aB n N
 len:N.length≤n.length
 fn:∀ x∈N,∃ w∈n,x.f=w.f∨∃ t,Tm t∧x.f=ar w.f t
theorem sE {n:List (U Qd)} (hW:∀ x∈n,Wv x.iv∧DOk x.f) (ho:n.Pairwise fun a b=>ec a.iv < (dL b.iv:Int)):∃ N,aV n=(N,0)∧NFs n N:=by
 refine ⟨_,xH hW ho,?_⟩
 have h:=uF (eqf:=aX) (red:=ar) quads_ru (fun a b=>(gy a b).1) hW ho
 refine ⟨h.1,h.2.1,h.2.2,xZ (fun a b=>(gy a b).1) (fun x hx=>(hW x hx).1) (fun x hx t ht=>quads_ru.refl t ht _ (hW x hx).2) _ [] rfl ⟨fun _ h=>(by cases h),Nat.le_refl 0⟩,fun x hx=>?_⟩
 obtain ⟨i,hi,e⟩:=norm_f _ (Nat.le_refl _) x hx
 have hm:=j9 hi
 obtain ⟨w,hw,ha⟩:=List.mem_flatMap.1 hm
 refine ⟨w,hw,?_⟩
 have hf:=at_f ha
 rcases e with e | e
 ·exact .inl (by rw [e,hf])
 ·right
  refine ⟨(gt (n.flatMap atU) i).iv.lo,?_,by rw [e,hf]⟩
  rcases (vr (hW w hw).1 (hW w hw).2 ha).1.2 with ⟨t,ht,e⟩ | ⟨t,t',ht,_,_,e⟩
  ·rw [e]; exact ht
  ·rw [e]; exact ht
theorem yM {n:List (U Qd)} (hl:n.length≤256) (h:NF aX aB ar n) (hD:∀ x∈n,DOk x.f):dm n=0:=by
 obtain ⟨e1,e2⟩:=nB h.wv h.ord
 have e:=mM (e1.trans e2.symm)
 rw [← check_nf hl h hD]
 unfold dm iE
 have k1:iA n=gC n:=by
  funext i
  unfold iA gC
  rw [e]
 have b1:fv n=eP n:=by
  funext i
  unfold fv eP
  rfl
 rw [k1,b1]
section
variable (l m:List Stp)
end
end Go.Sx
namespace Go.Sx
section
variable {α:Type} [Inhabited α] {eqf:α→α→Bool} {same:α→α→GR→Bool} {red:α→GR→α}
def EnL (L:List (U α)) (e:GR):Prop:=∃ x∈L,e=x.iv.lo∨e=x.iv.hi
theorem step_end {L out:List (U α)} {x:Nat} (hx:x < L.length) (ih:∀ u∈out,EnL L u.iv.lo∧EnL L u.iv.hi) {u:U α} (hu:u∈du eqf same red L out x):EnL L u.iv.lo∧EnL L u.iv.hi:=by
 have hg:EnL L (gt L x).iv.lo∧EnL L (gt L x).iv.hi:=⟨⟨_,j9 hx,.inl rfl⟩,⟨_,j9 hx,.inr rfl⟩⟩
 have hl:0 < out.length→EnL L (gt out (out.length - 1)).iv.lo∧EnL L (gt out (out.length - 1)).iv.hi:=fun h0=>ih _ (j9 og)
 have hs:∀ z:U α,u∈out.set (out.length - 1) z→(0 < out.length→EnL L z.iv.lo∧EnL L z.iv.hi)→EnL L u.iv.lo∧EnL L u.iv.hi:=fun z h hz=>by
  have h0:0 < out.length:=by have:=List.length_pos_of_mem h; rwa [List.length_set] at this
  rcases List.mem_or_eq_of_mem_set h with h | h
  ·exact ih u h
  ·rw [h]; exact hz h0
 have ha:∀ z:U α,u∈out++[z]→(EnL L z.iv.lo∧EnL L z.iv.hi)→EnL L u.iv.lo∧EnL L u.iv.hi:=fun z h hz=>by
  rcases List.mem_append.1 h with h | h
  ·exact ih u h
  ·rw [List.mem_singleton.1 h]; exact hz
 simp only [du,jo,ku,Bool.cond_eq_ite] at hu
 repeat' split at hu
 all_goals first | exact ih u hu | exact ha _ hu hg | exact hs _ hu (fun h0=>⟨(hl h0).1,hg.2⟩) | exact hs _ hu (fun h0=>hl h0)
theorem uS {L:List (U α)}:∀ k,k≤L.length→∀ u∈et (du eqf same red L) [] k,EnL L u.iv.lo∧EnL L u.iv.hi
 | 0,_,u,hu=>by cases hu
 | k+1,hk,u,hu=>step_end og (uS k og) hu
end
theorem en_atoms {n:List (U Qd)} {e:GR} (h:EnL (n.flatMap atU) e):En n e:=by
 obtain ⟨a,ha,he⟩:=h
 obtain ⟨u,hu,ha⟩:=List.mem_flatMap.1 ha
 refine ⟨u,hu,?_⟩
 unfold atU at ha
 cases h1:u.iv.openLo <;> cases h2:aN u.iv <;> cases h3:u.iv.openHi <;> rw [h1,h2,h3] at ha <;> simp at ha <;> (try rcases ha with ha | ha | ha) <;> (try rcases ha with ha | ha) <;> first | (rcases he with he | he <;> first | exact .inl he | exact .inr he) | (subst ha; rcases he with he | he <;> first | exact .inl he | exact .inr he) | (exact absurd ha (by simp))
theorem xN (l:List Stp):FarE (nb l):=by
 have key:∀ e,En (nb l) e→En (aM l) e:=fun e ⟨x,hx,he⟩=>by
  have hb:=qU l
  obtain ⟨s1,s2⟩:=i0 (fun x hx=>(hb x hx).1.1)
  have h:=bn_is l
  rw [ii s1.length_eq fun i h0 h1=>(mV (fun x hx=>(hb x hx).1) s1 s2).2 (kP l).2 i h0 (by rw [s1.length_eq]; exact h1),ij,jL] at h
  have h1:=congrArg Prod.fst h
  dsimp only at h1
  have hx':x∈bo (aM l):=hx
  rw [← h1] at hx'
  have hE:=uS _ (Nat.le_refl _) x hx'
  have hE2:EnL ((ao (aM l)).flatMap atU) e:=by
   rcases he with he | he
   ·rw [he]; exact hE.1
   ·rw [he]; exact hE.2
  obtain ⟨w,hw,he⟩:=en_atoms hE2
  exact ⟨w,s1.mem_iff.1 hw,he⟩
 exact ⟨fun e he=>(tx l).1 e (key e he),fun e f he hf=>(tx l).2 e f (key e he) (key f hf)⟩
theorem mp_gap (l:List Stp):∀ i,0 < i→i < (am (nb l) []).length→BtP (gt (am (nb l) []) (i - 1)) (gt (am (nb l) []) i):=fun i h0 hi=>(yp (iU l).wv (xN l) i h0 hi).1
end Go.Sx
namespace Go.Sx
theorem bps_len (s:Stp) (b:Qd) (t:GR) (k:Bool):(bPs s b t k).length≤1:=by
 unfold bPs bPt
 simp only [Bool.cond_eq_ite]
 repeat' split
 all_goals simp
theorem bgp_len (s:Stp) (t t':GR) (k:Bool):(bGp s t t' k).length≤1:=by
 unfold bGp
 simp only [Bool.cond_eq_ite]
 repeat' split
 all_goals simp
def LI (s:(List (U Qd))×Nat×Bool×Bool×Nat×Qd):Prop:=s.2.2.2.2.1≤8∧s.1.length≤2*s.2.2.2.2.1
theorem len_inv (l:List Stp) (s:(List (U Qd))×Nat×Bool×Bool×Nat×Qd) (h:LI s) :
 nxP LI (fun _=>False) (cH l s.1 s.2.1 s.2.2.1 s.2.2.2.1 s.2.2.2.2.1 s.2.2.2.2.2):=by
 obtain ⟨out,a,root,taken,i,before⟩:=s
 obtain ⟨h1,h2⟩:=h
 simp only at h1 h2
 rw [oH]
 cases hc:((decide ((i:Int) < (l.length:Int))) && (decide ((i:Int) < 8))) with
 | false=>exact ⟨h1,h2⟩
 | true =>
  have hi:(i:Int) < 8:=of_decide_eq_true (by rw [Bool.and_eq_true] at hc; exact hc.2)
  refine ⟨by dsimp only; omega,?_⟩
  dsimp only
  simp only [List.length_append]
  have q1:=fun k=>bps_len (gt l i) before (ae a root) k
  have q2:=fun t' k=>bgp_len (gt l i) (ae a root) t' k
  have:=q1 taken
  grind
theorem tw (l:List Stp):(aM l).length≤16:=by
 have h:=pi (R:=List (U Qd)) (Q:=fun _=>False) (B:=fun s=>cH l s.1 s.2.1 s.2.2.1 s.2.2.2.1 s.2.2.2.2.1 s.2.2.2.2.2) (I:=LI) (len_inv l) ((8 - 0)+1) ([],0,false,false,0,default)
  ⟨by decide,by decide⟩
 have e:∃ s,LI s∧aM l=s.1:=by
  unfold aM
  revert h
  generalize bt _ _ _=X
  intro h
  cases X with
  | inl s =>
   refine ⟨s,h,?_⟩
   show fy l s.1 s.2.1 s.2.2.1 s.2.2.2.1 s.2.2.2.2.1 s.2.2.2.2.2=_
   unfold fy
   rfl
  | inr r=>exact h.elim
 obtain ⟨s,⟨h1,h2⟩,e⟩:=e
 rw [e]; omega
end Go.Sx
