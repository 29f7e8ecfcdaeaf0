/- A part of the proof of movingnumberChecks. -/
import Derived.Test.YtpfdaoajcnophaaGreatDoorC8
import Derived.Test.YtpfdaoajcnophaaGreatDoorProg
import Derived.Test.YtpfdaoajcnophaaGreatDoorC7
import Derived.Test.YtpfdaoajcnophaaGreatDoorB9
set_option linter.unusedVariables false
set_option linter.unusedSimpArgs false
open Go.Proofs.Tryz renaming underlying329 → nn329, runUnderlying46 → uu46, sizeOf29 → zz29, isAgg29 → aa29, runUnderlying24 → uu24, runUnderlying148 → uu148
namespace Go.Sx
def inI [K:Key] (i:Iv) (x:Nat):Prop:=kB (aJ i)≤x∧x < kB (aI i)
def inP [K:Key] (p:List Iv) (x:Nat):Prop:=∃ i∈p,inI i x
structure Cn [K:Key] (p:List Iv):Prop where
 wv:∀ i∈p,Wv i
 sep:p.Pairwise fun i j=>kB (aI i) < kB (aJ j)
theorem l9 [K:Key] (x:Nat):¬ inP [] x:=fun ⟨_,h,_⟩=>by cases h
theorem fF [K:Key] {i:Iv} {p:List Iv} {x:Nat}:inP (i::p) x↔inI i x∨inP p x:=by
 constructor
 · rintro ⟨j,hj,h⟩
   rcases List.mem_cons.1 hj with rfl | hj
   · exact .inl h
   · exact .inr ⟨j,hj,h⟩
 · rintro (h | ⟨j,hj,h⟩)
   · exact ⟨i,List.mem_cons_self ..,h⟩
   · exact ⟨j,List.mem_cons_of_mem _ hj,h⟩
theorem inP_app [K:Key] {p q:List Iv} {x:Nat}:inP (p++q) x↔inP p x∨inP q x:=by
 constructor
 · rintro ⟨j,hj,h⟩
   rcases List.mem_append.1 hj with hj | hj
   · exact .inl ⟨j,hj,h⟩
   · exact .inr ⟨j,hj,h⟩
 · rintro (⟨j,hj,h⟩ | ⟨j,hj,h⟩)
   · exact ⟨j,List.mem_append_left _ hj,h⟩
   · exact ⟨j,List.mem_append_right _ hj,h⟩
theorem Cn.nil [K:Key]:Cn []:=⟨fun _ h=>(by cases h),List.Pairwise.nil⟩
theorem Cn.tail [K:Key] {i:Iv} {p:List Iv} (h:Cn (i::p)):Cn p∧(∀ j∈p,kB (aI i) < kB (aJ j))∧Wv i:=by
 have h2:=List.pairwise_cons.1 h.sep
 exact ⟨⟨fun j hj=>h.wv j (List.mem_cons_of_mem _ hj),h2.2⟩,h2.1,h.wv i (List.mem_cons_self ..)⟩
theorem Cn.behind [K:Key] {i:Iv} {p:List Iv} (h:Cn (i::p)) {x:Nat} (hx:inP p x):kB (aI i) < x:=by
 obtain ⟨j,hj,h1,_⟩:=hx
 have:=h.tail.2.1 j hj
 omega
theorem Cn.ext [K:Key]:∀ {p q:List Iv},Cn p→Cn q→(∀ x,inP p x↔inP q x)→p=q
 | [],[],_,_,_=>rfl
 | [],j::q,_,hq,h=>absurd ((h _).2 (fF.2 (.inl ⟨Nat.le_refl _,(hq.tail.2.2).bd⟩))) (l9 _)
 | i::p,[],hp,_,h=>absurd ((h _).1 (fF.2 (.inl ⟨Nat.le_refl _,(hp.tail.2.2).bd⟩))) (l9 _)
 | i::p,j::q,hp,hq,h=>by
  have wi:=hp.tail.2.2
  have wj:=hq.tail.2.2
  have bi:=wi.bd
  have bj:=wj.bd
  have f1:kB (aJ j)≤kB (aJ i):=by
   rcases fF.1 ((h _).1 (fF.2 (.inl ⟨Nat.le_refl _,bi⟩))) with h1 | h1
   · exact h1.1
   · have:=hq.behind h1; omega
  have f2:kB (aJ i)≤kB (aJ j):=by
   rcases fF.1 ((h _).2 (fF.2 (.inl ⟨Nat.le_refl _,bj⟩))) with h1 | h1
   · exact h1.1
   · have:=hp.behind h1; omega
  have l1:¬ kB (aI i) < kB (aI j):=fun hl=>by
   rcases fF.1 ((h (kB (aI i))).2 (fF.2 (.inl ⟨by omega,hl⟩))) with h1 | h1
   · have:=h1.2; omega
   · have:=hp.behind h1; omega
  have l2:¬ kB (aI j) < kB (aI i):=fun hl=>by
   rcases fF.1 ((h (kB (aI j))).1 (fF.2 (.inl ⟨by omega,hl⟩))) with h1 | h1
   · have:=h1.2; omega
   · have:=hq.behind h1; omega
  have e:i=j:=iv_ext wi.1 wj.1 (by omega) (by omega)
  subst e
  rw [Cn.ext hp.tail.1 hq.tail.1 fun x=>⟨fun hx=>?_,fun hx=>?_⟩]
  · rcases fF.1 ((h x).1 (fF.2 (.inr hx))) with h1 | h1
    · have:=hp.behind hx; have:=h1.2; omega
    · exact h1
  · rcases fF.1 ((h x).2 (fF.2 (.inr hx))) with h1 | h1
    · have:=hq.behind hx; have:=h1.2; omega
    · exact h1
def sm [K:Key] (c:Ev→Int):List Ev→Nat→Int
 | [],_=>0
 | e::r,x=>(if kB e.at_≤x then c e else 0)+sm c r x
def rs (c:Ev→Int):List Ev→Int
 | []=>0
 | e::r=>c e+rs c r
variable {c:Ev→Int}
theorem xS [K:Key] (a b:List Ev) (x:Nat):sm c (a++b) x=sm c a x+sm c b x:=by
 induction a with
 | nil=>show sm c b x=0+sm c b x; omega
 | cons e a ih=>show (if kB e.at_≤x then c e else 0)+sm c (a++b) x=(if kB e.at_≤x then c e else 0)+sm c a x+sm c b x; rw [ih]; omega
theorem vb (a b:List Ev):rs c (a++b)=rs c a+rs c b:=by
 induction a with
 | nil=>show rs c b=0+rs c b; omega
 | cons e a ih=>show c e+rs c (a++b)=c e+rs c a+rs c b; rw [ih]; omega
theorem xR [K:Key] {a b:List Ev} (h:a.Perm b) (x:Nat):sm c a x=sm c b x:=by
 induction h with
 | nil=>rfl
 | cons e _ ih=>show _+_=_+_; rw [ih]
 | swap e e' l=>show (if kB e'.at_≤x then c e' else 0)+((if kB e.at_≤x then c e else 0)+sm c l x)=(if kB e.at_≤x then c e else 0)+((if kB e'.at_≤x then c e' else 0)+sm c l x); omega
 | trans _ _ h1 h2=>rw [h1,h2]
theorem yd {a b:List Ev} (h:a.Perm b):rs c a=rs c b:=by
 induction h with
 | nil=>rfl
 | cons e _ ih=>show _+_=_+_; rw [ih]
 | swap e e' l=>show c e'+(c e+rs c l)=c e+(c e'+rs c l); omega
 | trans _ _ h1 h2=>rw [h1,h2]
theorem xT [K:Key] {a:List Ev} {x:Nat} (h:∀ e∈a,kB e.at_≤x):sm c a x=rs c a:=by
 induction a with
 | nil=>rfl
 | cons e a ih =>
  show (if kB e.at_≤x then c e else 0)+sm c a x=c e+rs c a
  rw [if_pos (h e (List.mem_cons_self ..)),ih fun e' he=>h e' (List.mem_cons_of_mem _ he)]
theorem uj [K:Key] {a:List Ev} {x:Nat} (h:∀ e∈a,x < kB e.at_):sm c a x=0:=by
 induction a with
 | nil=>rfl
 | cons e a ih =>
  show (if kB e.at_≤x then c e else 0)+sm c a x=0
  rw [if_neg (by have:=h e (List.mem_cons_self ..); omega),ih fun e' he=>h e' (List.mem_cons_of_mem _ he)]
  rfl
def far [K:Key]:List Ev→Nat
 | []=>0
 | e::r=>kB e.at_+far r
theorem y6 [K:Key]:∀ {a:List Ev},∀ e∈a,kB e.at_≤far a
 | [],_,h=>by cases h
 | e'::a,e,h=>by
  rcases List.mem_cons.1 h with rfl | h
  · exact Nat.le_add_right _ _
  · exact Nat.le_trans (y6 e h) (Nat.le_add_left _ _)
def nxe (e:Ev):List Ev→Bool
 | []=>false
 | e2::_=>bW e.at_ e2.at_ == 0
def swS (keep:Bool→Bool→Bool):List Ev→List Iv→Bool→Bd→Int→Int→List Iv
 | [],out,_,_,_,_=>out
 | e::r,out,in_,fr,n0,n1 =>
  bif (nxe e r) then swS keep r out in_ fr (n0+e.b0) (n1+e.b1)
  else bif (keep (decide (n0+e.b0>0)) (decide (n1+e.b1>0))) && !in_ then swS keep r out (keep (decide (n0+e.b0>0)) (decide (n1+e.b1>0))) e.at_ (n0+e.b0) (n1+e.b1)
  else bif (!(keep (decide (n0+e.b0>0)) (decide (n1+e.b1>0)))) && in_ then swS keep r (out++[ch fr e.at_]) (keep (decide (n0+e.b0>0)) (decide (n1+e.b1>0))) fr (n0+e.b0) (n1+e.b1)
  else swS keep r out (keep (decide (n0+e.b0>0)) (decide (n1+e.b1>0))) fr (n0+e.b0) (n1+e.b1)
theorem eqz [K:Key] {a b:Bd} (ha:Tm a.at_) (hb:Tm b.at_):(bW a b == 0)=decide (kB a=kB b):=by
 rw [cmpB ha hb]
 by_cases e:kB a=kB b
 · rw [e,fP,decide_eq_true rfl]; rfl
 · rw [decide_eq_false e]
   exact beq_eq_false_iff_ne.2 fun h=>e (sgn_zero.1 h)
theorem not_in [K:Key] {out:List Iv} {y x:Nat} (h:∀ i∈out,kB (aI i) < y) (hx:y≤x):¬ inP out x:=fun ⟨i,hi,_,h2⟩=>by have:=h i hi; omega
def b0c:Ev→Int:=fun e=>e.b0
def b1c:Ev→Int:=fun e=>e.b1
theorem xN [K:Key] {keep:Bool→Bool→Bool} {S:List Ev} (hT:∀ e∈S,Tm e.at_.at_) (hs:S.Pairwise fun a b=>kB a.at_≤kB b.at_) (hend:keep (decide (rs b0c S>0)) (decide (rs b1c S>0))=false) :
 ∀ (s p:List Ev) (out:List Iv) (in_:Bool) (fr:Bd) (n0 n1:Int),S=p++s→n0=rs b0c p→n1=rs b1c p →
  (∀ x,(∀ e∈s,x < kB e.at_)→((inP out x∨(in_=true∧kB fr≤x))↔keep (decide (sm b0c S x>0)) (decide (sm b1c S x>0))=true)) →
  Cn out→(∀ i∈out,∀ e∈s,kB (aI i) < kB e.at_) →
  (in_=true→Tm fr.at_∧(∀ e∈s,kB fr < kB e.at_)∧∀ i∈out,kB (aI i) < kB fr) →
  Cn (swS keep s out in_ fr n0 n1)∧∀ x,inP (swS keep s out in_ fr n0 n1) x↔keep (decide (sm b0c S x>0)) (decide (sm b1c S x>0))=true
 | [],p,out,in_,fr,n0,n1,hS,_,_,hR,hC,_,hI=>by
  refine ⟨hC,fun x=>?_⟩
  show inP out x↔_
  cases in_ with
  | false =>
   rw [← hR x (fun _ h=>by cases h)]
   exact ⟨.inl,fun h=>h.resolve_right fun h=>by cases h.1⟩
  | true =>
   exfalso
   have h1:=(hR (kB fr+far S) (fun _ h=>by cases h)).1 (.inr ⟨rfl,Nat.le_add_right _ _⟩)
   rw [xT (fun e he=>Nat.le_trans (y6 e he) (Nat.le_add_left _ _)),xT (fun e he=>Nat.le_trans (y6 e he) (Nat.le_add_left _ _)),hend] at h1
   cases h1
 | e::r,p,out,in_,fr,n0,n1,hS,hn0,hn1,hR,hC,hL,hI=>by
  have hS2:S=(p++[e])++r:=by rw [hS]; simp
  have hTe:=hT e (by rw [hS]; simp)
  have hm0:n0+e.b0=rs b0c (p++[e]):=by rw [vb,hn0]; show _=rs b0c p+(e.b0+0); omega
  have hm1:n1+e.b1=rs b1c (p++[e]):=by rw [vb,hn1]; show _=rs b1c p+(e.b1+0); omega
  have hs2:=hs
  rw [hS2,List.pairwise_append] at hs2
  have hpe:∀ e'∈p++[e],kB e'.at_≤kB e.at_:=fun e' he'=>by
   have h1:=hs
   rw [hS,List.pairwise_append] at h1
   rcases List.mem_append.1 he' with h2 | h2
   · exact h1.2.2 e' h2 e (List.mem_cons_self ..)
   · rw [List.mem_singleton.1 h2]; exact Nat.le_refl _
  have her:∀ e'∈r,kB e.at_≤kB e'.at_:=fun e' he'=>hs2.2.2 e (by simp) e' he'
  cases ht:nxe e r with
  | true =>
   obtain ⟨e2,r2,rfl⟩:∃ e2 r2,r=e2::r2:=by
    cases r with
    | nil=>cases ht
    | cons e2 r2=>exact ⟨e2,r2,rfl⟩
   have hk:kB e.at_=kB e2.at_:=by
    have ht:(bW e.at_ e2.at_ == 0)=true:=ht
    rw [eqz hTe (hT e2 (by rw [hS]; simp)),decide_eq_true_eq] at ht
    exact ht
   rw [show swS keep (e::e2::r2) out in_ fr n0 n1=swS keep (e2::r2) out in_ fr (n0+e.b0) (n1+e.b1) by
    show (bif (nxe e (e2::r2)) then _ else _)=_
    rw [ht]; rfl]
   refine xN hT hs hend (e2::r2) (p++[e]) out in_ fr _ _ hS2 hm0 hm1 (fun x hx=>hR x fun e' he'=>?_) hC (fun i hi e' he'=>hL i hi e' (List.mem_cons_of_mem _ he')) (fun hin=>⟨(hI hin).1,fun e' he'=>(hI hin).2.1 e' (List.mem_cons_of_mem _ he'),(hI hin).2.2⟩)
   rcases List.mem_cons.1 he' with rfl | he'
   · rw [hk]; exact hx e2 (List.mem_cons_self ..)
   · exact hx e' he'
  | false =>
   have hgt:∀ e'∈r,kB e.at_ < kB e'.at_:=fun e' he'=>by
    cases r with
    | nil=>cases he'
    | cons e2 r2 =>
     have ht:(bW e.at_ e2.at_ == 0)=false:=ht
     rw [eqz hTe (hT e2 (by rw [hS]; simp)),decide_eq_false_iff_not] at ht
     have h1:=her e2 (List.mem_cons_self ..)
     have h2:=List.pairwise_cons.1 hs2.2.1
     rcases List.mem_cons.1 he' with rfl | he'
     · omega
     · have:=h2.1 e' he'; omega
   have hK:∀ x,kB e.at_≤x→(∀ e'∈r,x < kB e'.at_)→keep (decide (sm b0c S x>0)) (decide (sm b1c S x>0))=keep (decide (n0+e.b0>0)) (decide (n1+e.b1>0)):=fun x h1 h2=>by
    have q:∀ c:Ev→Int,sm c S x=rs c (p++[e]):=fun c=>by
     rw [hS2,xS,xT (fun e' he'=>Nat.le_trans (hpe e' he') h1),uj h2]; omega
    rw [q,q,hm0,hm1]
   have hlow:∀ x,x < kB e.at_→∀ e'∈e::r,x < kB e'.at_:=fun x hx e' he'=>by
    rcases List.mem_cons.1 he' with rfl | he'
    · exact hx
    · have:=her e' he'; omega
   have hLe:∀ i∈out,kB (aI i) < kB e.at_:=fun i hi=>hL i hi e (List.mem_cons_self ..)
   have hLr:∀ i∈out,∀ e'∈r,kB (aI i) < kB e'.at_:=fun i hi e' he'=>hL i hi e' (List.mem_cons_of_mem _ he')
   have ih:=fun out in_ fr=>xN hT hs hend r (p++[e]) out in_ fr _ _ hS2 hm0 hm1
   rw [show swS keep (e::r) out in_ fr n0 n1=bif (keep (decide (n0+e.b0>0)) (decide (n1+e.b1>0))) && !in_ then swS keep r out (keep (decide (n0+e.b0>0)) (decide (n1+e.b1>0))) e.at_ (n0+e.b0) (n1+e.b1)
    else bif (!(keep (decide (n0+e.b0>0)) (decide (n1+e.b1>0)))) && in_ then swS keep r (out++[ch fr e.at_]) (keep (decide (n0+e.b0>0)) (decide (n1+e.b1>0))) fr (n0+e.b0) (n1+e.b1)
    else swS keep r out (keep (decide (n0+e.b0>0)) (decide (n1+e.b1>0))) fr (n0+e.b0) (n1+e.b1) by
    show (bif (nxe e r) then _ else _)=_
    rw [ht]; rfl]
   revert hK
   generalize keep (decide (n0+e.b0>0)) (decide (n1+e.b1>0))=now
   intro hK
   have hall:∀ x,x < kB e.at_∨kB e.at_≤x:=fun x=>Nat.lt_or_ge x _
   cases now with
   | true =>
    cases in_ with
    | false =>
     refine ih out true e.at_ (fun x hx=>?_) hC hLr (fun _=>⟨hTe,hgt,hLe⟩)
     rcases hall x with h1 | h1
     · rw [← hR x (hlow x h1)]
       exact ⟨fun h=>.inl (h.resolve_right fun h=>by have:=h.2; omega),fun h=>.inl (h.resolve_right fun h=>by cases h.1)⟩
     · rw [hK x h1 hx]
       exact ⟨fun _=>rfl,fun _=>.inr ⟨rfl,h1⟩⟩
    | true =>
     obtain ⟨i1,i2,i3⟩:=hI rfl
     refine ih out true fr (fun x hx=>?_) hC hLr (fun _=>⟨i1,fun e' he'=>i2 e' (List.mem_cons_of_mem _ he'),i3⟩)
     rcases hall x with h1 | h1
     · exact hR x (hlow x h1)
     · rw [hK x h1 hx]
       have:=i2 e (List.mem_cons_self ..)
       exact ⟨fun _=>rfl,fun _=>.inr ⟨rfl,by omega⟩⟩
   | false =>
    cases in_ with
    | false =>
     refine ih out false fr (fun x hx=>?_) hC hLr (fun h=>by cases h)
     rcases hall x with h1 | h1
     · exact hR x (hlow x h1)
     · rw [hK x h1 hx]
       exact ⟨fun h=>h.elim (fun h=>absurd h (not_in hLe h1)) fun h=>(by cases h.1),fun h=>(by cases h)⟩
    | true =>
     obtain ⟨i1,i2,i3⟩:=hI rfl
     have hfe:=i2 e (List.mem_cons_self ..)
     have hin:∀ x,inI (ch fr e.at_) x↔(kB fr≤x∧x < kB e.at_):=fun x=>by unfold inI; rw [sj,uV]
     have hw:Wv (ch fr e.at_):=by
      refine wv_of ⟨?_,?_⟩ (by rw [sj,uV]; exact hfe)
      · unfold ch; exact i1
      · unfold ch; exact hTe
     refine ih (out++[ch fr e.at_]) false fr (fun x hx=>?_) ⟨fun i hi=>?_,?_⟩ (fun i hi e' he'=>?_) (fun h=>by cases h)
     · have hx2:inP (out++[ch fr e.at_]) x↔inP out x∨(kB fr≤x∧x < kB e.at_):=by
        rw [inP_app,fF,hin]
        exact ⟨fun h=>h.imp id fun h=>h.resolve_right (l9 x),fun h=>h.imp id .inl⟩
       rw [hx2]
       rcases hall x with h1 | h1
       · rw [← hR x (hlow x h1)]
         constructor
         · rintro ((h | h) | h)
           · exact .inl h
           · exact .inr ⟨rfl,h.1⟩
           · cases h.1
         · rintro (h | h)
           · exact .inl (.inl h)
           · exact .inl (.inr ⟨h.2,h1⟩)
       · rw [hK x h1 hx]
         constructor
         · rintro ((h | h) | h)
           · exact absurd h (not_in hLe h1)
           · omega
           · cases h.1
         · intro h; cases h
     · rcases List.mem_append.1 hi with hi | hi
       · exact hC.wv i hi
       · rw [List.mem_singleton.1 hi]; exact hw
     · rw [List.pairwise_append]
       refine ⟨hC.sep,List.pairwise_singleton _ _,fun i hi j hj=>?_⟩
       rw [List.mem_singleton.1 hj,sj]
       exact i3 i hi
     · rcases List.mem_append.1 hi with hi | hi
       · exact hLr i hi e' he'
       · rw [List.mem_singleton.1 hi,uV]
         exact hgt e' he'
def evA (a:List Iv):List Ev:=a.flatMap fun i=>[⟨aJ i,1,0⟩,⟨aI i,-1,0⟩]
def evB (b:List Iv):List Ev:=b.flatMap fun i=>[⟨aJ i,0,1⟩,⟨aI i,0,-1⟩]
theorem vZ [K:Key] {i:Iv} (h:Wv i) (x:Nat):(if kB (aJ i)≤x then (1:Int) else 0)+((if kB (aI i)≤x then (-1:Int) else 0))=if kB (aJ i)≤x∧x < kB (aI i) then 1 else 0:=by
 have:=h.bd
 by_cases h1:kB (aJ i)≤x
 · by_cases h2:kB (aI i)≤x
   · rw [if_pos h1,if_pos h2,if_neg (by omega)]; rfl
   · rw [if_pos h1,if_neg h2,if_pos ⟨h1,by omega⟩]; rfl
 · rw [if_neg h1,if_neg (by omega),if_neg (by omega)]; rfl
theorem evA_sm [K:Key]:∀ {a:List Iv},(∀ i∈a,Wv i)→∀ x,0≤sm b0c (evA a) x∧(0 < sm b0c (evA a) x↔inP a x)
 | [],_,x=>⟨Int.le_refl _,⟨fun h=>absurd h (Int.lt_irrefl _),fun h=>absurd h (l9 x)⟩⟩
 | i::a,h,x=>by
  obtain ⟨h1,h2⟩:=evA_sm (a:=a) (fun j hj=>h j (List.mem_cons_of_mem _ hj)) x
  have e:sm b0c (evA (i::a)) x=((if kB (aJ i)≤x then (1:Int) else 0)+((if kB (aI i)≤x then (-1:Int) else 0)))+sm b0c (evA a) x:=by
   show (if kB (aJ i)≤x then (1:Int) else 0)+((if kB (aI i)≤x then (-1:Int) else 0)+sm b0c (evA a) x)=_
   omega
  rw [e,vZ (h i (List.mem_cons_self ..)),fF,← h2]
  unfold inI
  by_cases h3:kB (aJ i)≤x∧x < kB (aI i)
  · rw [if_pos h3]; exact ⟨by omega,⟨fun _=>.inl h3,fun _=>by omega⟩⟩
  · rw [if_neg h3]; exact ⟨by omega,⟨fun h4=>.inr (by omega),fun h4=>by have:=h4.resolve_left h3; omega⟩⟩
theorem evB_sm [K:Key]:∀ {a:List Iv},(∀ i∈a,Wv i)→∀ x,0≤sm b1c (evB a) x∧(0 < sm b1c (evB a) x↔inP a x)
 | [],_,x=>⟨Int.le_refl _,⟨fun h=>absurd h (Int.lt_irrefl _),fun h=>absurd h (l9 x)⟩⟩
 | i::a,h,x=>by
  obtain ⟨h1,h2⟩:=evB_sm (a:=a) (fun j hj=>h j (List.mem_cons_of_mem _ hj)) x
  have e:sm b1c (evB (i::a)) x=((if kB (aJ i)≤x then (1:Int) else 0)+((if kB (aI i)≤x then (-1:Int) else 0)))+sm b1c (evB a) x:=by
   show (if kB (aJ i)≤x then (1:Int) else 0)+((if kB (aI i)≤x then (-1:Int) else 0)+sm b1c (evB a) x)=_
   omega
  rw [e,vZ (h i (List.mem_cons_self ..)),fF,← h2]
  unfold inI
  by_cases h3:kB (aJ i)≤x∧x < kB (aI i)
  · rw [if_pos h3]; exact ⟨by omega,⟨fun _=>.inl h3,fun _=>by omega⟩⟩
  · rw [if_neg h3]; exact ⟨by omega,⟨fun h4=>.inr (by omega),fun h4=>by have:=h4.resolve_left h3; omega⟩⟩
theorem evA_0 [K:Key]:∀ (a:List Iv) (x:Nat),sm b1c (evA a) x=0∧rs b1c (evA a)=0∧rs b0c (evA a)=0
 | [],_=>⟨rfl,rfl,rfl⟩
 | i::a,x=>by
  obtain ⟨h1,h2,h3⟩:=evA_0 a x
  refine ⟨?_,?_,?_⟩
  · show (if kB (aJ i)≤x then (0:Int) else 0)+((if kB (aI i)≤x then (0:Int) else 0)+sm b1c (evA a) x)=0
    rw [h1]; simp
  · show (0:Int)+(0+rs b1c (evA a))=0
    rw [h2]; rfl
  · show (1:Int)+(-1+rs b0c (evA a))=0
    rw [h3]; rfl
theorem evB_0 [K:Key]:∀ (a:List Iv) (x:Nat),sm b0c (evB a) x=0∧rs b0c (evB a)=0∧rs b1c (evB a)=0
 | [],_=>⟨rfl,rfl,rfl⟩
 | i::a,x=>by
  obtain ⟨h1,h2,h3⟩:=evB_0 a x
  refine ⟨?_,?_,?_⟩
  · show (if kB (aJ i)≤x then (0:Int) else 0)+((if kB (aI i)≤x then (0:Int) else 0)+sm b0c (evB a) x)=0
    rw [h1]; simp
  · show (0:Int)+(0+rs b0c (evB a))=0
    rw [h2]; rfl
  · show (1:Int)+(-1+rs b1c (evB a))=0
    rw [h3]; rfl
theorem ev_tm [K:Key] {a b:List Iv} (ha:∀ i∈a,Wv i) (hb:∀ i∈b,Wv i):∀ e∈evA a++evB b,Tm e.at_.at_:=fun e he=>by
 rcases List.mem_append.1 he with he | he
 · obtain ⟨i,hi,he⟩:=List.mem_flatMap.1 he
   have:=(ha i hi).1
   rcases List.mem_cons.1 he with rfl | he
   · show Tm (aJ i).at_; rw [pf]; exact this.1
   · rw [List.mem_singleton.1 he]; show Tm (aI i).at_; rw [pl]; exact this.2
 · obtain ⟨i,hi,he⟩:=List.mem_flatMap.1 he
   have:=(hb i hi).1
   rcases List.mem_cons.1 he with rfl | he
   · show Tm (aJ i).at_; rw [pf]; exact this.1
   · rw [List.mem_singleton.1 he]; show Tm (aI i).at_; rw [pl]; exact this.2
open Classical in
theorem sF [K:Key] {keep:Bool→Bool→Bool} (hk:keep false false=false) {a b:List Iv} (ha:∀ i∈a,Wv i) (hb:∀ i∈b,Wv i) {S:List Ev} (hp:S.Perm (evA a++evB b)) (hs:S.Pairwise fun a b=>kB a.at_≤kB b.at_) (fr:Bd) :
 Cn (swS keep S [] false fr 0 0)∧∀ x,inP (swS keep S [] false fr 0 0) x↔keep (decide (inP a x)) (decide (inP b x))=true:=by
 have hT:∀ e∈S,Tm e.at_.at_:=fun e he=>ev_tm ha hb e (hp.mem_iff.1 he)
 have h0:∀ x,sm b0c S x=sm b0c (evA a) x:=fun x=>by rw [xR hp,xS,(evB_0 b x).1]; omega
 have h1:∀ x,sm b1c S x=sm b1c (evB b) x:=fun x=>by rw [xR hp,xS,(evA_0 a x).1]; omega
 have hend:keep (decide (rs b0c S>0)) (decide (rs b1c S>0))=false:=by
  rw [yd hp,yd hp,vb,vb,(evA_0 a 0).2.2,(evB_0 b 0).2.1,(evA_0 a 0).2.1,(evB_0 b 0).2.2]
  exact hk
 have hx:∀ x,keep (decide (sm b0c S x>0)) (decide (sm b1c S x>0))=keep (decide (inP a x)) (decide (inP b x)):=fun x=>by
  rw [h0,h1,decide_eq_decide.2 (evA_sm ha x).2,decide_eq_decide.2 (evB_sm hb x).2]
 obtain ⟨r1,r2⟩:=xN hT hs hend S [] [] false fr 0 0 rfl rfl rfl (fun x hx2=>by
  rw [uj hx2,uj hx2]
  constructor
  · rintro (h | h)
    · exact absurd h (l9 x)
    · cases h.1
  · intro h
    rw [show decide ((0:Int)>0)=false from rfl,hk] at h; cases h) Cn.nil (fun _ h=>by cases h) (fun h=>by cases h)
 exact ⟨r1,fun x=>by rw [r2,hx]⟩
end Go.Sx
namespace Go.Proofs
open Go.Shelf
def Tryz.laysSort_ren:Go.Shelf.Ren:=⟨fun | 6=>267 | 15=>308 | 14=>307 | 28=>312 | 29=>272 | 20=>335 | 21=>336 | 22=>337 | 23=>338 | 24=>339 | 25=>340 | 26=>341 | 27=>342 | 46=>359 | 47=>360 | 48=>361 | 49=>362 | 50=>363 | 57=>374 | n=>n,fun | 22=>329 | 24=>332 | 25=>334 | 3=>3 | 39=>348 | 0=>0 | 53=>343 | 55=>260 | 4=>4 | 46=>393 | 45=>392 | 50=>183 | 5=>5 | 9=>9 | 66=>420 | 70=>187 | 76=>434 | 77=>435 | n=>n,fun | n=>n⟩
theorem Tryz.laysSort:Go.Proofs.SlLaysF0.n6 Tryz.prog Tryz.laysSort_ren:={
 mixed:=by kernel_rfl
 f6:=⟨Tryz.f267.name,by decide,Tryz.func267.trans (congrArg some (by kernel_rfl))⟩
 f14:=⟨Tryz.f307.name,by decide,Tryz.func307.trans (congrArg some (by kernel_rfl))⟩
 f15:=Tryz.func308.trans (congrArg some (by kernel_rfl))
 f20:=⟨Tryz.f335.name,by decide,Tryz.func335.trans (congrArg some (by kernel_rfl))⟩
 f21:=⟨Tryz.f336.name,by decide,Tryz.func336.trans (congrArg some (by kernel_rfl))⟩
 f22:=⟨Tryz.f337.name,by decide,Tryz.func337.trans (congrArg some (by kernel_rfl))⟩
 f23:=⟨Tryz.f338.name,by decide,Tryz.func338.trans (congrArg some (by kernel_rfl))⟩
 f24:=⟨Tryz.f339.name,by decide,Tryz.func339.trans (congrArg some (by kernel_rfl))⟩
 f25:=⟨Tryz.f340.name,by decide,Tryz.func340.trans (congrArg some (by kernel_rfl))⟩
 f26:=⟨Tryz.f341.name,by decide,Tryz.func341.trans (congrArg some (by kernel_rfl))⟩
 f27:=⟨Tryz.f342.name,by decide,Tryz.func342.trans (congrArg some (by kernel_rfl))⟩
 f28:=Tryz.func312.trans (congrArg some (by kernel_rfl))
 f29:=Tryz.func272.trans (congrArg some (by kernel_rfl))
 f46:=⟨Tryz.f359.name,by decide,Tryz.func359.trans (congrArg some (by kernel_rfl))⟩
 f47:=Tryz.func360.trans (congrArg some (by kernel_rfl))
 f48:=Tryz.func361.trans (congrArg some (by kernel_rfl))
 f49:=⟨Tryz.f362.name,by decide,Tryz.func362.trans (congrArg some (by kernel_rfl))⟩
 f50:=⟨Tryz.f363.name,by decide,Tryz.func363.trans (congrArg some (by kernel_rfl))⟩
 f57:=⟨Tryz.f374.name,by decide,Tryz.func374.trans (congrArg some (by kernel_rfl))⟩
 t0:=Tryz.underlying0
 a0:=Tryz.isAgg0
 z0:=Tryz.sizeOf0
 v0:=Tryz.zeroValue0
 t3:=Tryz.underlying3
 a3:=Tryz.isAgg3
 z3:=Tryz.sizeOf3
 v3:=Tryz.zeroValue3
 t4:=Tryz.underlying4
 a4:=Tryz.isAgg4
 z4:=Tryz.sizeOf4
 v4:=Tryz.zeroValue4
 t5:=Tryz.underlying5
 a5:=Tryz.isAgg5
 z5:=Tryz.sizeOf5
 v5:=Tryz.zeroValue5
 t9:=Tryz.underlying9
 a9:=Tryz.isAgg9
 z9:=Tryz.sizeOf9
 v9:=Tryz.zeroValue9
 t22:=nn329
 a22:=Tryz.isAgg329
 z22:=Tryz.sizeOf329
 v22:=Tryz.zeroValue329
 t25:=Tryz.underlying334
 a25:=Tryz.isAgg334
 z25:=Tryz.sizeOf334
 v25:=Tryz.zeroValue334
 t39:=Tryz.underlying348
 a39:=Tryz.isAgg348
 z39:=Tryz.sizeOf348
 v39:=Tryz.zeroValue348
 t45:=Tryz.underlying392
 a45:=Tryz.isAgg392
 z45:=Tryz.sizeOf392
 v45:=Tryz.zeroValue392
 t46:=Tryz.underlying393
 a46:=Tryz.isAgg393
 z46:=Tryz.sizeOf393
 v46:=Tryz.zeroValue393
 t50:=Tryz.underlying183
 a50:=Tryz.isAgg183
 z50:=Tryz.sizeOf183
 v50:=Tryz.zeroValue183
 t53:=Tryz.underlying343
 a53:=Tryz.isAgg343
 z53:=Tryz.sizeOf343
 v53:=Tryz.zeroValue343
 t55:=Tryz.underlying260
 a55:=Tryz.isAgg260
 z55:=Tryz.sizeOf260
 v55:=Tryz.zeroValue260
 t66:=Tryz.underlying420
 a66:=Tryz.isAgg420
 z66:=Tryz.sizeOf420
 v66:=Tryz.zeroValue420
 t70:=Tryz.underlying187
 a70:=Tryz.isAgg187
 z70:=Tryz.sizeOf187
 v70:=Tryz.zeroValue187
 t76:=Tryz.underlying434
 a76:=Tryz.isAgg434
 z76:=Tryz.sizeOf434
 v76:=Tryz.zeroValue434
 t77:=Tryz.underlying435
 a77:=Tryz.isAgg435
 z77:=Tryz.sizeOf435
 v77:=Tryz.zeroValue435 }
end Go.Proofs
namespace Go.Sx
open Go Go.RowKit Go.Proofs Go.Sort Go.Lib
structure TE [K:Key] where
 e:Ev
 tm:Tm e.at_.at_
instance yC9_1 [K:Key]:Inhabited TE:=⟨⟨default,ww⟩⟩
def cfT [K:Key] (x y:TE):Int:=cg x.1 y.1
theorem wa [K:Key] (x y:TE):ltOf cfT x y=decide (kB x.1.at_ < kB y.1.at_):=by
 unfold ltOf cfT cg
 rw [cmpB x.2 y.2]
 exact decide_eq_decide.2 lI
theorem z6 [K:Key]:SWO (ltOf cfT) where
 irrefl x:=by rw [wa]; exact decide_eq_false (Nat.lt_irrefl _)
 trans x y z h1 h2:=by
  rw [wa,decide_eq_true_eq] at *
  omega
 ntrans x y z h1 h2:=by
  rw [wa,decide_eq_false_iff_not] at *
  omega
def sw [K:Key] (d:Array TE):Array TE:=pdq (ltOf cfT) d 0 d.size (Lib.bitLen d.size) true true
theorem xP [K:Key] (d:Array TE):(sw d).size=d.size∧(sw d).toList.Perm d.toList∧(sw d).toList.Pairwise fun a b=>kB a.1.at_≤kB b.1.at_:=by
 have h:=pdq_sorts (ltOf cfT) z6 d 0 d.size (Lib.bitLen d.size) true true (Nat.zero_le _) (Nat.le_refl _) (Or.inl rfl)
 obtain ⟨⟨h1,_,h3⟩,h4⟩:=h
 have h1:(sw d).size=d.size:=h1
 refine ⟨h1,?_,?_⟩
 · have h3:((sw d).extract 0 d.size).toList.Perm (d.extract 0 d.size).toList:=h3
   rw [← h1] at h3
   rw [h1] at h3
   have e1:(sw d).extract 0 d.size=sw d:=by rw [← h1]; simp
   have e2:d.extract 0 d.size=d:=by simp
   rwa [e1,e2] at h3
 · rw [List.pairwise_iff_getElem]
   intro i j hi hj hij
   have hi':i < (sw d).size:=by simpa using hi
   have hj':j < (sw d).size:=by simpa using hj
   have h5:=h4 i j (Nat.zero_le _) hij (by rw [← h1]; exact hj')
   have h5:ltOf cfT (sw d)[j]! (sw d)[i]! = false:=h5
   rw [getElem!_pos (sw d) i hi',getElem!_pos (sw d) j hj',wa,decide_eq_false_iff_not] at h5
   show kB ((sw d).toList[i]).1.at_≤kB ((sw d).toList[j]).1.at_
   simp only [Array.getElem_toList]
   omega
def tmB [K:Key] (x:GR):Bool:=decide (x∈K.l)
theorem xK [K:Key] {x:GR}:tmB x=true↔Tm x:=Tm.iff
def tmL [K:Key] (l:List Ev):Bool:=l.all fun e=>tmB e.at_.at_
theorem jf [K:Key] {l:List Ev}:tmL l=true↔∀ e∈l,Tm e.at_.at_:=by
 unfold tmL
 rw [List.all_eq_true]
 exact ⟨fun h e he=>xK.1 (h e he),fun h e he=>xK.2 (h e he)⟩
def evT [K:Key] (l:List Ev) (h:tmL l=true):Array TE:=(l.attach.map fun e=>(⟨e.1,jf.1 h e.1 e.2⟩:TE)).toArray
theorem zk [K:Key] (l:List Ev) (h:tmL l=true):(evT l h).toList.map (fun x=>x.1)=l:=by
 show ((l.attach.map fun e=>(⟨e.1,jf.1 h e.1 e.2⟩:TE)).map fun x=>x.1)=l
 rw [List.map_map]
 exact List.attach_map_subtype_val l
theorem evT_size [K:Key] (l:List Ev) (h:tmL l=true):(evT l h).size=l.length:=by unfold evT; simp
def aV [K:Key] (l:List Ev):List Ev :=
 if h:tmL l=true then (if l.length≤12 then cq l else (sw (evT l h)).toList.map fun x=>x.1) else l
theorem small_is (l:List Ev):cq l=tx cg l 0 l.length:=by
 unfold cq cn
 show bB l 0 l.length=_
 unfold bB
 rfl
theorem qY [K:Key] {x:Ev} (hx:Tm x.at_.at_):∀ {r:List Ev},(∀ e∈r,Tm e.at_.at_)→(r.Pairwise fun a b=>kB b.at_≤kB a.at_)→(jd cg x r).Pairwise fun a b=>kB b.at_≤kB a.at_
 | [],_,_=>List.pairwise_singleton _ _
 | y::q,h,hp=>by
  have hy:=h y (List.mem_cons_self ..)
  have hp2:=List.pairwise_cons.1 hp
  have hc:cg x y < 0↔kB x.at_ < kB y.at_:=by
   unfold cg
   rw [cmpB hx hy,lI]
  unfold jd
  by_cases hl:cg x y < 0
  · rw [if_pos hl,List.pairwise_cons]
    refine ⟨fun z hz=>?_,qY hx (fun e he=>h e (List.mem_cons_of_mem _ he)) hp2.2⟩
    rcases List.mem_cons.1 ((jm (c:=cg) x q).mem_iff.1 hz) with rfl | hz
    · have:=hc.1 hl; omega
    · exact hp2.1 z hz
  · rw [if_neg hl,List.pairwise_cons]
    have hxy:kB y.at_≤kB x.at_:=Nat.le_of_not_lt fun h2=>hl (hc.2 h2)
    refine ⟨fun z hz=>?_,hp⟩
    rcases List.mem_cons.1 hz with rfl | hz
    · exact hxy
    · exact Nat.le_trans (hp2.1 z hz) hxy
theorem tz [K:Key]:∀ {s r:List Ev},(∀ e∈s,Tm e.at_.at_)→(∀ e∈r,Tm e.at_.at_)→(r.Pairwise fun a b=>kB b.at_≤kB a.at_)→(qA cg r s).Pairwise fun a b=>kB b.at_≤kB a.at_
 | [],_,_,_,hp=>hp
 | x::s,r,h1,h2,hp=>by
  have hx:=h1 x (List.mem_cons_self ..)
  show (qA cg (jd cg x r) s).Pairwise _
  exact tz (fun e he=>h1 e (List.mem_cons_of_mem _ he)) (fun e he=>by
   rcases List.mem_cons.1 ((jm (c:=cg) x r).mem_iff.1 he) with rfl | he
   · exact hx
   · exact h2 e he) (qY hx h2 hp)
theorem ui [K:Key] {l:List Ev} (h:∀ e∈l,Tm e.at_.at_):(aV l).Perm l∧(aV l).Pairwise fun a b=>kB a.at_≤kB b.at_:=by
 unfold aV
 rw [dif_pos (jf.2 h)]
 by_cases hl:l.length≤12
 · rw [if_pos hl,small_is]
   refine ⟨ml l,?_⟩
   rw [rS,List.pairwise_reverse]
   exact tz h (fun _ h=>by cases h) List.Pairwise.nil
 · rw [if_neg hl]
   obtain ⟨_,h2,h3⟩:=xP (evT l (jf.2 h))
   refine ⟨?_,by rw [List.pairwise_map]; exact h3⟩
   have:=h2.map (fun x:TE=>x.1)
   rwa [zk] at this
theorem j9 [K:Key] (l:List Ev):(aV l).Perm l:=by
 by_cases h:∀ e∈l,Tm e.at_.at_
 · exact (ui h).1
 · unfold aV; rw [dif_neg (fun h2=>h (jf.1 h2))]
theorem kD [K:Key] (x:List Ev) (xv:Value) (hl:x.length≤1000) (hT:∀ e∈x,Tm e.at_.at_) (zx:All (SzE 30) x) (w0 w:World) (B:Asn) (hbel:Below w0.heap.size w0 w) (hsep:∃ Z_,Sep w0.heap.size w [.row (α:=Ev) 332 xv x,B] Z_) :Calls Tryz.prog 267 #[xv,(.func (.func 268) #[] #[])] w (RetY w0 (fun v=>v=.tuple #[]∧(All (SzE 30) (aV x)∧(aV x).length=x.length)) (fun v=>[.row (α:=Ev) 332 xv (aV x),B])):=by
 have hprop:All (SzE 30) (aV x)∧(aV x).length=x.length:=⟨fun e he=>zx e ((j9 x).mem_iff.1 he),(j9 x).length_eq⟩
 by_cases h12:x.length≤12
 · have e:aV x=cq x:=by unfold aV; rw [dif_pos (jf.2 hT),if_pos h12]
   rw [e]
   exact jv x xv h12 zx w0 w B hbel hsep
 · have e:aV x=(sw (evT x (jf.2 hT))).toList.map (fun x=>x.1):=by unfold aV; rw [dif_pos (jf.2 hT),if_neg h12]
   have hsz:=evT_size x (jf.2 hT)
   have hsep2:∃ Z_,Sep w0.heap.size w [.row (α:=Ev) 332 xv ((evT x (jf.2 hT)).toList.map (fun x=>x.1)),B] Z_:=by rw [zk]; exact hsep
   have hk:=sort_own (P:=Tryz.prog) (val:=fun x:TE=>x.1) (F:=267) (more:=[(.func (.func 268) #[] #[])]) (D':=sw (evT x (jf.2 hT))) (by omega) (xP _).1 hprop hbel hsep2 fun blk cap hv hH hhi hlo=>by
    have eg:∀ args w,(callFunc 268 args).run Tryz.prog w=.ok (.enter 268 args) w:=Tryz.call268
    have hc:=lays_of (P:=Tryz.prog) (val:=fun x:TE=>x.1) (g:=268) (cf:=cfT) (blk:=blk) (size:=(evT x (jf.2 hT)).size) (w:=w) (p:=fun x y=>(-1≤(cg x.1 y.1)∧(cg x.1 y.1)≤1)) (fun a b w=>jk a.1 b.1 (dG (tm_sz a.2) (by decide)) (dG (tm_sz b.2) (by decide)) w)
    have:=AnyQ.slices_SortFunc_eq (P:=Tryz.prog) Tryz.laysSort 12 Tryz.isAgg332 Tryz.sizeOf332 (fun x:TE=>Cod.enc x.1) (fun x=>Cod.len x.1) (fun x=>Cod.one x.1) cfT z6 268 #[] blk 0 cap (evT x (jf.2 hT)) w eg hc hH hhi (by omega)
    rw [hv]
    exact this
   rw [← e] at hk
   exact hk
def EvB (e:Ev):Prop:=(-1≤e.b0∧e.b0≤1)∧(-1≤e.b1∧e.b1≤1)
theorem evb_nil:∀ e∈([]:List Ev),EvB e:=fun _ h=>by cases h
theorem y9 {l:List Ev} (h:∀ e∈l,EvB e) {x y:Bd} {a b c d:Int} (h1:(-1≤a∧a≤1)∧(-1≤b∧b≤1)) (h2:(-1≤c∧c≤1)∧(-1≤d∧d≤1)):∀ e∈l++[⟨x,a,b⟩,⟨y,c,d⟩],EvB e:=fun e he=>by
 rcases List.mem_append.1 he with he | he
 · exact h e he
 · rcases List.mem_cons.1 he with rfl | he
   · exact h1
   · rw [List.mem_singleton.1 he]; exact h2
theorem evb_gt [K:Key] {l:List Ev} (h:∀ e∈l,EvB e) (i:Nat):EvB (gt (aV l) i):=by
 have hp:=j9 l
 by_cases hi:i < (aV l).length
 · have:gt (aV l) i∈aV l:=by
    unfold gt
    rw [List.getD_eq_getElem?_getD,List.getElem?_eq_getElem hi]
    exact List.getElem_mem _
   exact h _ (hp.mem_iff.1 this)
 · have:gt (aV l) i=default:=by unfold gt; rw [List.getD_eq_getElem?_getD,List.getElem?_eq_none (by omega)]; rfl
   rw [this]; exact ⟨⟨by decide,by decide⟩,⟨by decide,by decide⟩⟩
theorem oF {β:Type} [Inhabited β] {A:List β} {i:Nat} (h:i < A.length):A.take (i+1)=A.take i++[gt A i]:=by
 rw [gU h,List.take_append_getElem]
theorem evA_next {l:List Ev} {a:List Iv} {x:Nat} (h:l=evA (a.take x)) (hx:x < a.length):l++[⟨aJ (gt a x),1,0⟩,⟨aI (gt a x),-1,0⟩]=evA (a.take (x+1)):=by
 rw [h,oF hx]; simp [evA]
theorem evB_next {l:List Ev} {a b:List Iv} {x:Nat} (h:l=evA a++evB (b.take x)) (hx:x < b.length):l++[⟨aJ (gt b x),0,1⟩,⟨aI (gt b x),0,-1⟩]=evA a++evB (b.take (x+1)):=by
 rw [h,oF hx]; simp [evB]
end Go.Sx
namespace Go.Sx
open Go Go.RowKit Go.Proofs
set_option maxRecDepth 100000
set_option maxHeartbeats 40000000
attribute [local irreducible] Code.wp wpList Rd Step ObS Ent
attribute [local irreducible] ah ak aq an bN
theorem slt103:SlT Tryz.prog 56 74 20 216 [.bool false,.string ⟨#[]⟩,.bool false,.string ⟨#[]⟩,.bool false,.string ⟨#[]⟩,.bool false,.string ⟨#[]⟩,.bool false,.bool false,.string ⟨#[]⟩,.bool false,.string ⟨#[]⟩,.bool false,.string ⟨#[]⟩,.bool false,.string ⟨#[]⟩,.bool false,.bool false,.bool false]:=⟨Tryz.underlying56,Tryz.t74,_,Tryz.type74,rfl,rfl,rfl,rfl,rfl,by decide,by decide⟩
theorem u4:SlT Tryz.prog 329 332 12 128 [.bool false,.string ⟨#[]⟩,.bool false,.string ⟨#[]⟩,.bool false,.string ⟨#[]⟩,.bool false,.string ⟨#[]⟩,.bool false,.bool false,.int .i64 0,.int .i64 0]:=⟨nn329,Tryz.t332,_,Tryz.type332,rfl,rfl,rfl,rfl,rfl,by decide,by decide⟩
theorem slt318:SlT Tryz.prog 224 56 1 24 [.slice none 0 0]:=⟨Tryz.underlying224,Tryz.t56,_,Tryz.type56,rfl,rfl,rfl,rfl,rfl,by decide,by decide⟩
theorem sw_step {kp:Bool→Bool→Bool} {S:List Ev} {i:Nat} (out:List Iv) (in_:Bool) (fr:Bd) (n0 n1:Int) (h:i < S.length):swS kp (S.drop i) out in_ fr n0 n1 =
 bif (decide (((i+1:Nat):Int) < ((S.length:Nat):Int)) && (bW (gt S i).at_ (gt S (i+1)).at_ == 0)) then swS kp (S.drop (i+1)) out in_ fr (n0+(gt S i).b0) (n1+(gt S i).b1)
 else bif (kp (decide (n0+(gt S i).b0>0)) (decide (n1+(gt S i).b1>0)) && !in_) then swS kp (S.drop (i+1)) out (kp (decide (n0+(gt S i).b0>0)) (decide (n1+(gt S i).b1>0))) (gt S i).at_ (n0+(gt S i).b0) (n1+(gt S i).b1)
 else bif (!(kp (decide (n0+(gt S i).b0>0)) (decide (n1+(gt S i).b1>0))) && in_) then swS kp (S.drop (i+1)) (out++[ch fr (gt S i).at_]) (kp (decide (n0+(gt S i).b0>0)) (decide (n1+(gt S i).b1>0))) fr (n0+(gt S i).b0) (n1+(gt S i).b1)
 else swS kp (S.drop (i+1)) out (kp (decide (n0+(gt S i).b0>0)) (decide (n1+(gt S i).b1>0))) fr (n0+(gt S i).b0) (n1+(gt S i).b1):=by
 have e:nxe (gt S i) (S.drop (i+1))=(decide (((i+1:Nat):Int) < ((S.length:Nat):Int)) && (bW (gt S i).at_ (gt S (i+1)).at_ == 0)):=by
  by_cases h2:i+1 < S.length
  · rw [List.drop_eq_getElem_cons h2,← gU h2,decide_eq_true (by omega:((i+1:Nat):Int) < ((S.length:Nat):Int))]; rfl
  · rw [List.drop_of_length_le (by omega),decide_eq_false (by omega:¬ ((i+1:Nat):Int) < ((S.length:Nat):Int))]; rfl
 rw [← e,List.drop_eq_getElem_cons h,← gU h]; rfl
def z_ev:Ev:=⟨⟨⟨oQ,oQ,false⟩,false⟩,0,0⟩
instance yC9_2 (x:Bd):Bu Tryz.prog 332 [0] [vW x] (vE (⟨x,0,0⟩:Ev)):=Bu.of t6 rfl rfl
def fp [K:Key] (kp:Bool→Bool→Bool) (a b:List Iv):List Iv:=swS kp (aV (evA a++evB b)) [] false z_ev.at_ 0 0
theorem lq [K:Key] (kp:Bool→Bool→Bool) (kid:FuncId) (hkc:∀ args w,(callFunc kid args).run Tryz.prog w=.ok (.enter kid args) w) (hkp:∀ (p q:Bool) (w:World),Calls Tryz.prog kid #[.bool p,.bool q] w (dh w (.bool (kp p q)) True)) (a:List Iv) (av:Value) (b:List Iv) (bv:Value) (hla:a.length≤200) (hlb:b.length≤200) (hwa:∀ i∈a,Wv i) (hwb:∀ i∈b,Wv i) (za:All (SzV 30) a) (zb:All (SzV 30) b) (w0:World) (hav:View w0 av a) (hbv:View w0 bv b):Calls Tryz.prog 194 #[av,bv,(.func (.func kid) #[] #[])] w0 (RetR w0 74 (fp kp a b) (All (SzV 30) (fp kp a b)∧(fp kp a b).length≤2*a.length+2*b.length)):=by
 refine enter (N:=127) (args:=[av,bv,(.func (.func kid) #[] #[])]) Tryz.func194 rfl rfl ?_; intro ac h
 haveI:On:=⟨trivial⟩
 have hlena:=hav.len
 have hlenb:=hbv.len
 have sa:=hav.sl
 have sb:=hbv.sl
 refine gz h <| (W) ?_; clear h ac; intro ac wo h
 refine bsl h slt318 rfl rfl (SL.is hav.sl) (SL.is hbv.sl) rfl ?_; clear h ac wo; intro b1 ac wo h
 refine rd0 h (g9 Tryz.runUnderlying224 rfl (n:=2) ⟨_,_,rfl⟩) rfl ?_; clear h ac wo; intro ac wo h
 refine gz h <| (W) ?_; clear h ac wo; intro ac wo h
 have hNN:NN (.slice (some ⟨b1,0,none⟩) 2 2) 2:=⟨_,_,_,rfl⟩
 refine sA 2 ?_
 refine gz h <| (ai) ?_ ?_ <;> clear h ac wo <;> intro ac wo h hc1
 ·
  clear hc1
  refine gz h <| (W) ?_; clear h ac wo; intro ac wo h
  replace h:=h.nilRow (α:=Ev) 332
  refine wp_loop_ghost (fun n_ a_ w_=>∃ (l:List Ev) (x:Nat) (lv:Value),(a.length - x < n_)∧(x≤a.length)∧(All (SzE 30) l)∧(l.length=2*x)∧(∀ e∈l,EvB e)∧(l=evA (a.take x))∧St w0 127 [(2,(.func (.func kid) #[] #[])),(7,lv),(8,(.int .i64 0)),(23,(.slice (some ⟨b1,0,none⟩) 2 2)),(24,(.int .i64 2)),(25,(.int .i64 0)),(30,av),(31,iN a.length),(32,iN x)] [.row (α:=Ev) 332 lv l,.blk b1 [av,bv] 56] a_ w_) (a.length+1) ⟨[],0,(.slice none 0 0),og,og,All.nil,rfl,evb_nil,rfl,h.rs⟩ ?_
  clear h ac wo; rintro n1 ac wo ⟨l1,x,lv1,hm1,hx32,zl1,hll1,hlb1,hle1,h⟩
  obtain ⟨m1,rfl⟩:∃ m,n1=m+1:=⟨n1 - 1,by omega⟩
  refine gz h <| (ai) ?_ ?_ <;> clear h ac wo <;> intro ac wo h hc1
  ·
   have hd1:=of_decide_eq_true hc1
   have zx:=All.gt za (SzV_d _) (i:=x)
   have s2:SzE 30 ⟨aJ (gt a x),1,0⟩:=ar (gi (gt a x) zx w0)
   have s3:SzE 30 ⟨aI (gt a x),-1,0⟩:=ar (gI (gt a x) zx w0)
   refine gz h <| (xa) fun b2=>(W) ?_; clear h ac wo; intro ac wo h
   replace h:=h.emps 2
   refine fU mixed [dw (vV (gt a x)) [0],dv (vW (aJ (gt a x))),dv (vE ⟨aJ (gt a x),0,0⟩),dw (vV (gt a x)) [0],dv (vW (aI (gt a x))),dv (vE ⟨aI (gt a x),0,0⟩),⟨.nd (.one 6 fun v=>∃ b,v=ptr b 0),[3]⟩,⟨.nd (.one 7 fun v=>∃ b,v=ptr b 0),[4]⟩,dw _ [3],dw _ [4]] [⟨_,[]⟩,⟨_,[]⟩,⟨_,[]⟩,⟨.emp,[(6,.one 6 fun v=>.blk (bR v) (cE z_ev) 332),(8,.one 6 fun v=>.blk (bR v) (cE ⟨aJ (gt a x),0,0⟩) 332)]⟩,⟨.emp,[(7,.one 7 fun v=>.blk (bR v) (cE z_ev) 332),(9,.one 7 fun v=>.blk (bR v) (cE ⟨aI (gt a x),0,0⟩) 332)]⟩] h rfl (by kernel_rfl) ⟨oA obA,oA fun _=>i0 (fq (cz Tryz.call136 rfl) (kk (gi (gt a x) zx))),oA fun _=>bk (bX t6 rfl rfl rfl),oA obA,oA fun _=>i0 (fq (cz Tryz.call137 rfl) (kk (gI (gt a x) zx))),oA fun _=>bk (bX t6 rfl rfl rfl),fun _ _=>pS 3 rfl (fun _=>rfl),fun _ _=>pS 4 rfl (fun _=>rfl),fun ξ hφ=>pQ (u:=vE ⟨aJ (gt a x),0,0⟩) 3 (hφ 6 rfl) rfl rfl rfl rfl rfl rfl rfl,fun ξ hφ=>pQ (u:=vE ⟨aI (gt a x),0,0⟩) 4 (hφ 7 rfl) rfl rfl rfl rfl rfl rfl rfl,trivial⟩ ?_
   clear h ac wo; intro ξ ac wo hφ h
   obtain ⟨b3,hb6⟩:∃ b,ξ 6=ptr b 0:=hφ 6
   obtain ⟨b4,hb7⟩:∃ b,ξ 7=ptr b 0:=hφ 7
   replace h:St w0 127 [(2,(.func (.func kid) #[] #[])),(7,lv1),(8,(.int .i64 0)),(23,(.slice (some ⟨b1,0,none⟩) 2 2)),(24,(.int .i64 2)),(25,(.int .i64 0)),(30,av),(31,iN a.length),(32,iN x),(12,ξ 6),(13,ξ 7)] [.row (α:=Ev) 332 lv1 l1,.blk b1 [av,bv] 56,.blk (bR (ξ 6)) (cE ⟨aJ (gt a x),0,0⟩) 332,.blk (bR (ξ 7)) (cE ⟨aI (gt a x),0,0⟩) 332] ac wo:=(h.pick [1,2,3,4] (by decide)).sub ⟨rfl,rfl,rfl,rfl,rfl,rfl,rfl,rfl,rfl,rfl,rfl,trivial⟩
   rw [hb6,hb7] at h
   clear hb6 hb7 hφ ξ
   refine gz h <| (xs 2 (cE ⟨aJ (gt a x),1,0⟩)) <| (xs 3 (cE ⟨aI (gt a x),-1,0⟩)) <| (W) ?_; clear h ac wo; intro ac wo h
   refine nw h (bT (α:=Ev) (xs:=[.tmp 49,.tmp 50]) (vs:=[vE ⟨aJ (gt a x),1,0⟩,vE ⟨aI (gt a x),-1,0⟩]) [⟨aJ (gt a x),1,0⟩,⟨aI (gt a x),-1,0⟩] u4 rfl rfl rfl (by decide)) rfl ?_; clear h ac wo; intro sv4 ac wo _ h
   refine on2 h 1 0 rfl rfl (eA (xs:=l1) (ys:=[⟨aJ (gt a x),1,0⟩,⟨aI (gt a x),-1,0⟩]) u4 (fun w hs=>(row_view hs 0 rfl)) rfl rfl og) rfl ?_; clear h ac wo; intro sv5 ac wo _ h
   refine gz h <| (W) ?_; clear h ac wo; intro ac wo h
   exact az ⟨m1,og,_,x+1,sv5,og,og,All.app zl1 (All.cons s2 (All.cons s3 All.nil)),by rw [List.length_append]; show _+2=_; omega,y9 hlb1 ⟨⟨by decide,by decide⟩,⟨by decide,by decide⟩⟩ ⟨⟨by decide,by decide⟩,⟨by decide,by decide⟩⟩,evA_next hle1 og,h.re [0,2]⟩
  ·
   have hd1:=of_decide_eq_false hc1
   obtain rfl:x=a.length:=by omega
   rw [List.take_length] at hle1
   refine gz h <| (ai) ?_ ?_ <;> clear h ac wo <;> intro ac wo h hc2
   ·
    clear hc2
    refine gz h <| (W) ?_; clear h ac wo; intro ac wo h
    refine wp_loop_ghost (fun n_ a_ w_=>∃ (l:List Ev) (x:Nat) (lv:Value),(b.length - x < n_)∧(x≤b.length)∧(All (SzE 30) l)∧(l.length=2*a.length+2*x)∧(∀ e∈l,EvB e)∧(l=evA a++evB (b.take x))∧St w0 127 [(2,(.func (.func kid) #[] #[])),(7,lv),(8,(.int .i64 1)),(23,(.slice (some ⟨b1,0,none⟩) 2 2)),(24,(.int .i64 2)),(25,(.int .i64 1)),(30,bv),(31,iN b.length),(32,iN x)] [.row (α:=Ev) 332 lv l,.blk b1 [av,bv] 56] a_ w_) (b.length+1) ⟨l1,0,lv1,og,og,zl1,by omega,hlb1,by rw [hle1]; simp [evB],h.rs⟩ ?_
    clear h ac wo; rintro n2 ac wo ⟨l2,x,lv2,hm1,hx32,zl2,hll2,hlb2,hle2,h⟩
    obtain ⟨m1,rfl⟩:∃ m,n2=m+1:=⟨n2 - 1,by omega⟩
    refine gz h <| (ai) ?_ ?_ <;> clear h ac wo <;> intro ac wo h hc1
    ·
     have hd1:=of_decide_eq_true hc1
     have zx:=All.gt zb (SzV_d _) (i:=x)
     have s2:SzE 30 ⟨aJ (gt b x),0,1⟩:=ar (gi (gt b x) zx w0)
     have s3:SzE 30 ⟨aI (gt b x),0,-1⟩:=ar (gI (gt b x) zx w0)
     refine gz h <| (xa) fun b2=>(W) ?_; clear h ac wo; intro ac wo h
     replace h:=h.emps 2
     refine fU mixed [dw (vV (gt b x)) [0],dv (vW (aJ (gt b x))),dv (vE ⟨aJ (gt b x),0,0⟩),dw (vV (gt b x)) [0],dv (vW (aI (gt b x))),dv (vE ⟨aI (gt b x),0,0⟩),⟨.nd (.one 6 fun v=>∃ b,v=ptr b 0),[3]⟩,⟨.nd (.one 7 fun v=>∃ b,v=ptr b 0),[4]⟩,dw _ [3],dw _ [4]] [⟨_,[]⟩,⟨_,[]⟩,⟨_,[]⟩,⟨.emp,[(6,.one 6 fun v=>.blk (bR v) (cE z_ev) 332),(8,.one 6 fun v=>.blk (bR v) (cE ⟨aJ (gt b x),0,0⟩) 332)]⟩,⟨.emp,[(7,.one 7 fun v=>.blk (bR v) (cE z_ev) 332),(9,.one 7 fun v=>.blk (bR v) (cE ⟨aI (gt b x),0,0⟩) 332)]⟩] h rfl (by kernel_rfl) ⟨oA obA,oA fun _=>i0 (fq (cz Tryz.call136 rfl) (kk (gi (gt b x) zx))),oA fun _=>bk (bX t6 rfl rfl rfl),oA obA,oA fun _=>i0 (fq (cz Tryz.call137 rfl) (kk (gI (gt b x) zx))),oA fun _=>bk (bX t6 rfl rfl rfl),fun _ _=>pS 3 rfl (fun _=>rfl),fun _ _=>pS 4 rfl (fun _=>rfl),fun ξ hφ=>pQ (u:=vE ⟨aJ (gt b x),0,0⟩) 3 (hφ 6 rfl) rfl rfl rfl rfl rfl rfl rfl,fun ξ hφ=>pQ (u:=vE ⟨aI (gt b x),0,0⟩) 4 (hφ 7 rfl) rfl rfl rfl rfl rfl rfl rfl,trivial⟩ ?_
     clear h ac wo; intro ξ ac wo hφ h
     obtain ⟨b3,hb6⟩:∃ b,ξ 6=ptr b 0:=hφ 6
     obtain ⟨b4,hb7⟩:∃ b,ξ 7=ptr b 0:=hφ 7
     replace h:St w0 127 [(2,(.func (.func kid) #[] #[])),(7,lv2),(8,(.int .i64 1)),(23,(.slice (some ⟨b1,0,none⟩) 2 2)),(24,(.int .i64 2)),(25,(.int .i64 1)),(30,bv),(31,iN b.length),(32,iN x),(12,ξ 6),(13,ξ 7)] [.row (α:=Ev) 332 lv2 l2,.blk b1 [av,bv] 56,.blk (bR (ξ 6)) (cE ⟨aJ (gt b x),0,0⟩) 332,.blk (bR (ξ 7)) (cE ⟨aI (gt b x),0,0⟩) 332] ac wo:=(h.pick [1,2,3,4] (by decide)).sub ⟨rfl,rfl,rfl,rfl,rfl,rfl,rfl,rfl,rfl,rfl,rfl,trivial⟩
     rw [hb6,hb7] at h
     clear hb6 hb7 hφ ξ
     refine gz h <| (xs 2 (cE ⟨aJ (gt b x),0,1⟩)) <| (xs 3 (cE ⟨aI (gt b x),0,-1⟩)) <| (W) ?_; clear h ac wo; intro ac wo h
     refine nw h (bT (α:=Ev) (xs:=[.tmp 49,.tmp 50]) (vs:=[vE ⟨aJ (gt b x),0,1⟩,vE ⟨aI (gt b x),0,-1⟩]) [⟨aJ (gt b x),0,1⟩,⟨aI (gt b x),0,-1⟩] u4 rfl rfl rfl (by decide)) rfl ?_; clear h ac wo; intro sv4 ac wo _ h
     refine on2 h 1 0 rfl rfl (eA (xs:=l2) (ys:=[⟨aJ (gt b x),0,1⟩,⟨aI (gt b x),0,-1⟩]) u4 (fun w hs=>(row_view hs 0 rfl)) rfl rfl og) rfl ?_; clear h ac wo; intro sv5 ac wo _ h
     refine gz h <| (W) ?_; clear h ac wo; intro ac wo h
     exact az ⟨m1,og,_,x+1,sv5,og,og,All.app zl2 (All.cons s2 (All.cons s3 All.nil)),by rw [List.length_append]; show _+2=_; omega,y9 hlb2 ⟨⟨by decide,by decide⟩,⟨by decide,by decide⟩⟩ ⟨⟨by decide,by decide⟩,⟨by decide,by decide⟩⟩,evB_next hle2 og,h.re [0,2]⟩
    ·
     have hd1:=of_decide_eq_false hc1
     obtain rfl:x=b.length:=by omega
     rw [List.take_length] at hle2
     refine gz h <| (ai) ?_ ?_ <;> clear h ac wo <;> intro ac wo h hc3
     · cases hc3
     ·
      refine gz h <| (W) ?_; clear h ac wo; intro ac wo h
      have hT2:∀ e∈l2,Tm e.at_.at_:=by rw [hle2]; exact ev_tm hwa hwb
      refine on1 h 0 rfl (jx (vs:=[lv2,(.func (.func 268) #[] #[])]) (A:=fun v=>[.row (α:=Ev) 332 lv2 (aV l2)]) (cz Tryz.call267 rfl) (fun w_ B_ hB_ hS_=>kD l2 lv2 og hT2 zl2 w0 w_ B_ hB_ hS_)) rfl ?_; clear h ac wo; intro vc ac wo s11 h
      have zS:=s11.2.1
      have hS:(aV l2).length=2*a.length+2*b.length:=by rw [(j9 l2).length_eq,hll2]
      have bS:=evb_gt hlb2
      clear s11
      obtain ⟨R,hR⟩:∃ R,fp kp a b=R:=⟨_,rfl⟩
      have hR2:=hR
      unfold fp at hR2
      rw [← hle2] at hR2
      rw [hR]
      generalize aV l2=S at h zS hS bS hR2
      refine gz h <| (xa) fun b8=>(xa) fun b9=>(W) ?_; clear h ac wo; intro ac wo h
      replace h:=h.nilRow (α:=Iv) 74
      refine wp_loop_ghost (fun n_ a_ w_=>∃ (out:List Iv) (i_:Bool) (i:Nat) (fr:Bd) (n:I2) (outv:Value),(S.length - i < n_)∧(i≤S.length)∧(swS kp (S.drop i) out i_ fr n.n0 n.n1=R)∧(All (SzV 30) out)∧(SzW 30 fr)∧(out.length≤i)∧((-(i:Int)≤n.n0∧n.n0≤(i:Int))∧(-(i:Int)≤n.n1∧n.n1≤(i:Int)))∧St w0 127 [(2,(.func (.func kid) #[] #[])),(7,lv2),(14,outv),(15,ptr b8 0),(16,ptr b9 0),(17,.bool i_),(57,lv2),(58,iN S.length),(59,iN i)] [.row (α:=Iv) 74 outv out,.blk b9 (cW fr) 199,.blk b8 (cJ n) 330,.row (α:=Ev) 332 lv2 S] a_ w_) (S.length+1) ⟨[],false,0,z_ev.at_,⟨0,0⟩,(.slice none 0 0),og,og,hR2,All.nil,SzW_d _,og,by decide,h.re [0,1,2,3]⟩ ?_
      clear h ac wo; rintro n3 ac wo ⟨out,i_,i,fr,n,outv,hm3,hi,hR3,zo,zf,lo,hn,h⟩
      obtain ⟨m3,rfl⟩:∃ m,n3=m+1:=⟨n3 - 1,by omega⟩
      obtain ⟨⟨he1,he2⟩,⟨he3,he4⟩⟩:=bS i
      refine gz h <| (ai) ?_ ?_ <;> clear h ac wo <;> intro ac wo h hc4
      ·
       have hd4:=of_decide_eq_true hc4
       rw [sw_step _ _ _ _ _ (by omega)] at hR3
       have zi:=All.gt zS (ub _) (i:=i)
       have zj:=All.gt zS (ub _) (i:=i+1)
       refine gz h <| (xa) fun b10=>(dr1 (H:=[⟨_,[]⟩,⟨_,[]⟩,⟨_,[]⟩,⟨.blk b8 (cJ n) 330,[(13,.con (.blk b8 (cJ ⟨n.n0+(gt S i).b0,n.n1⟩) 330)),(15,.con (.blk b8 (cJ ⟨n.n0+(gt S i).b0,n.n1+(gt S i).b1⟩) 330))]⟩,⟨_,[]⟩]) (hob:=oE)) <| (dr0 (hob:=(oG (by exact fun hg=>im (gt S i).at_ (gt S (i+1)).at_ zi zj)) <| oE)) <| (ai) ?_ ?_ <;> clear h ac wo <;> intro ac wo h hc5
       ·
        rw [hc5,cond_true] at hR3
        refine gz h <| (W) ?_; clear h ac wo; intro ac wo h
        exact az ⟨m3,og,out,i_,i+1,fr,⟨n.n0+(gt S i).b0,n.n1+(gt S i).b1⟩,outv,og,og,hR3,zo,zf,og,⟨⟨by simp only; omega,by simp only; omega⟩,⟨by simp only; omega,by simp only; omega⟩⟩,h.re [1,2,3,4]⟩
       ·
        rw [hc5,cond_false] at hR3
        haveI:Cf Tryz.prog kid:=⟨hkc⟩
        refine gz h <| (xk (hkp (decide (n.n0+(gt S i).b0>0)) (decide (n.n1+(gt S i).b1>0)))) <| (ai) ?_ ?_ <;> clear h ac wo <;> intro ac wo h hc6
        ·
         rw [hc6,cond_true] at hR3
         refine gz h <| (W) ?_; clear h ac wo; intro ac wo h
         exact az ⟨m3,og,out,(kp (decide (n.n0+(gt S i).b0>0)) (decide (n.n1+(gt S i).b1>0))),i+1,(gt S i).at_,⟨n.n0+(gt S i).b0,n.n1+(gt S i).b1⟩,outv,og,og,hR3,zo,zi,og,⟨⟨by simp only; omega,by simp only; omega⟩,⟨by simp only; omega,by simp only; omega⟩⟩,h.re [1,2,3,4]⟩
        ·
         rw [hc6,cond_false] at hR3
         refine gz h <| (ai) ?_ ?_ <;> clear h ac wo <;> intro ac wo h hc7
         ·
          rw [hc7,cond_true] at hR3
          have s16:=ar (kO fr (gt S i).at_ zf zi w0)
          refine gz h <| (xk (kO fr (gt S i).at_ zf zi)) <| (W) ?_; clear h ac wo; intro ac wo h
          refine nw h (bT (α:=Iv) (xs:=[.tmp 121]) (vs:=[vV (ch fr (gt S i).at_)]) [ch fr (gt S i).at_] slt103 rfl rfl rfl (by decide)) rfl ?_; clear h ac wo; intro sv17 ac wo _ h
          refine on2 h 2 0 rfl rfl (eA (xs:=out) (ys:=[ch fr (gt S i).at_]) slt103 (fun w hs=>(row_view hs 0 rfl)) rfl rfl og) rfl ?_; clear h ac wo; intro sv18 ac wo _ h
          refine gz h <| (W) ?_; clear h ac wo; intro ac wo h
          exact az ⟨m3,og,_,(kp (decide (n.n0+(gt S i).b0>0)) (decide (n.n1+(gt S i).b1>0))),i+1,fr,⟨n.n0+(gt S i).b0,n.n1+(gt S i).b1⟩,_,og,og,hR3,(All.app zo (All.cons s16 All.nil)),zf,og,⟨⟨by simp only; omega,by simp only; omega⟩,⟨by simp only; omega,by simp only; omega⟩⟩,h.re [0,3,4,5]⟩
         ·
          rw [hc7,cond_false] at hR3
          refine gz h <| (W) ?_; clear h ac wo; intro ac wo h
          exact az ⟨m3,og,out,(kp (decide (n.n0+(gt S i).b0>0)) (decide (n.n1+(gt S i).b1>0))),i+1,fr,⟨n.n0+(gt S i).b0,n.n1+(gt S i).b1⟩,outv,og,og,hR3,zo,zf,og,⟨⟨by simp only; omega,by simp only; omega⟩,⟨by simp only; omega,by simp only; omega⟩⟩,h.re [1,2,3,4]⟩
      ·
       have hd4:=of_decide_eq_false hc4
       rw [List.drop_of_length_le (by omega)] at hR3
       have e:out=R:=hR3
       refine gz h <| (W) ?_; clear h ac wo; intro ac wo h
       exact (rt h) (by rw [← e]; exact h.retR 0 rfl ⟨zo,by omega⟩)
   · cases hc2
 · cases hc1
attribute [irreducible] fp
def fH [K:Key] (a:List Iv) (b:List Iv):(List Iv):=fp dD a b
theorem kN [K:Key] (a:List Iv) (av:Value) (b:List Iv) (bv:Value) (hla:a.length≤200) (hlb:b.length≤200) (hwa:∀ i∈a,Wv i) (hwb:∀ i∈b,Wv i) (za:All (SzV 30) a) (zb:All (SzV 30) b) (w0:World) (hav:View w0 av a) (hbv:View w0 bv b):Calls Tryz.prog 194 #[av,bv,(.func (.func 195) #[] #[])] w0 (RetR w0 74 (fH a b) (All (SzV 30) (fH a b)∧(fH a b).length≤2*a.length+2*b.length)) :=
 lq dD 195 Tryz.call195 lR a av b bv hla hlb hwa hwb za zb w0 hav hbv
attribute [irreducible] fH
def dp [K:Key] (a:List Iv) (b:List Iv):(List Iv) :=
 (fH a b)
theorem mJ [K:Key] (a:List Iv) (av:Value) (b:List Iv) (bv:Value) (hla:a.length≤200) (hlb:b.length≤200) (hwa:∀ i∈a,Wv i) (hwb:∀ i∈b,Wv i) (za:All (SzV 30) a) (zb:All (SzV 30) b) (w0:World) (hav:View w0 av a) (hbv:View w0 bv b):Calls Tryz.prog 93 #[av,bv] w0 (RetR w0 74 (dp a b) (All (SzV 30) (dp a b)∧(dp a b).length≤2*a.length+2*b.length)):=by
 refine enter (N:=8) (args:=[av,bv]) Tryz.func93 rfl rfl ?_; intro ac h
 haveI:On:=⟨trivial⟩
 have hlena:=hav.len
 have hlenb:=hbv.len
 refine gz h <| (W) ?_; clear h ac; intro ac wo h
 have s1:=RetR.pr ((fun w_ hB_ hS_=>kN a av b bv og og og og za zb w_ (hav.below hB_) (hbv.below hB_)) _ h.bel h.sep)
 have p2:=s1.2
 refine iu (xs:=(fH a b)) h (cz Tryz.call194 rfl) (fun w_ hB_ hS_=>kN a av b bv og og og og za zb w_ (hav.below hB_) (hbv.below hB_)) rfl ?_; clear h ac wo; intro sv3 ac wo _ h
 refine gz h <| (W) ?_; clear h ac wo; intro ac wo h
 exact (rt h) (by unfold dp; exact h.retR 0 rfl ⟨s1.1,og⟩)
attribute [irreducible] dp
end Go.Sx
namespace Go.Sx
open Go Go.RowKit Go.Proofs
set_option maxRecDepth 100000
set_option maxHeartbeats 40000000
attribute [local irreducible] Code.wp wpList Rd Step ObS Ent
attribute [local irreducible] ah ak aq an bN
def fG [K:Key] (a:List Iv) (b:List Iv):(List Iv):=fp eM a b
theorem kM [K:Key] (a:List Iv) (av:Value) (b:List Iv) (bv:Value) (hla:a.length≤200) (hlb:b.length≤200) (hwa:∀ i∈a,Wv i) (hwb:∀ i∈b,Wv i) (za:All (SzV 30) a) (zb:All (SzV 30) b) (w0:World) (hav:View w0 av a) (hbv:View w0 bv b):Calls Tryz.prog 194 #[av,bv,(.func (.func 289) #[] #[])] w0 (RetR w0 74 (fG a b) (All (SzV 30) (fG a b)∧(fG a b).length≤2*a.length+2*b.length)) :=
 lq eM 289 Tryz.call289 nZ a av b bv hla hlb hwa hwb za zb w0 hav hbv
attribute [irreducible] fG
def fI [K:Key] (a:List Iv) (b:List Iv):(List Iv) :=
 (fG a b)
theorem lQ [K:Key] (a:List Iv) (av:Value) (b:List Iv) (bv:Value) (hla:a.length≤200) (hlb:b.length≤200) (hwa:∀ i∈a,Wv i) (hwb:∀ i∈b,Wv i) (za:All (SzV 30) a) (zb:All (SzV 30) b) (w0:World) (hav:View w0 av a) (hbv:View w0 bv b):Calls Tryz.prog 234 #[av,bv] w0 (RetR w0 74 (fI a b) (All (SzV 30) (fI a b)∧(fI a b).length≤2*a.length+2*b.length)):=by
 refine enter (N:=8) (args:=[av,bv]) Tryz.func234 rfl rfl ?_; intro ac h
 have hlena:=hav.len
 have hlenb:=hbv.len
 refine gz h <| (W) ?_; clear h ac; intro ac wo h
 have s1:=RetR.pr ((fun w_ hB_ hS_=>kM a av b bv og og og og za zb w_ (hav.below hB_) (hbv.below hB_)) _ h.bel h.sep)
 have p2:=s1.2
 refine iu (xs:=(fG a b)) h (cz Tryz.call194 rfl) (fun w_ hB_ hS_=>kM a av b bv og og og og za zb w_ (hav.below hB_) (hbv.below hB_)) rfl ?_; clear h ac wo; intro sv3 ac wo _ h
 refine gz h <| (W) ?_; clear h ac wo; intro ac wo h
 exact (rt h) (by unfold fI; exact h.retR 0 rfl ⟨s1.1,og⟩)
attribute [irreducible] fI
def bo [K:Key] (l:List Iv):(List Iv) :=
 (fI l ([]))
theorem gF [K:Key] (l:List Iv) (lv:Value) (hl:l.length≤200) (hw:∀ i∈l,Wv i) (zl:All (SzV 30) l) (w0:World) (hlv:View w0 lv l):Calls Tryz.prog 132 #[lv] w0 (RetR w0 74 (bo l) (All (SzV 30) (bo l)∧(bo l).length≤2*l.length)):=by
 refine enter (N:=5) (args:=[lv]) Tryz.func132 rfl rfl ?_; intro ac h
 have hlenl:=hlv.len
 refine gz h <| (W) ?_; clear h ac; intro ac wo h
 have s1:=RetR.pr ((fun w_ hB_ hS_=>lQ l lv ([]) (.slice none 0 0) og (by simp) og (fun _ h=>by cases h) zl All.nil w_ (hlv.below hB_) View.nilv) _ h.bel h.sep)
 have p2:=s1.2
 refine iu (xs:=(fI l ([]))) h (cz Tryz.call234 rfl) (fun w_ hB_ hS_=>lQ l lv ([]) (.slice none 0 0) og (by simp) og (fun _ h=>by cases h) zl All.nil w_ (hlv.below hB_) View.nilv) rfl ?_; clear h ac wo; intro sv3 ac wo _ h
 refine gz h <| (W) ?_; clear h ac wo; intro ac wo h
 exact (rt h) (by unfold bo; exact h.retR 0 rfl ⟨s1.1,og⟩)
attribute [irreducible] bo
end Go.Sx
namespace Go.Sx
set_option maxRecDepth 100000
theorem qH [K:Key] (kp:Bool→Bool→Bool) (a b:List Iv):∃ fr,fp kp a b=swS kp (aV (evA a++evB b)) [] false fr 0 0:=by
 unfold fp
 exact ⟨_,rfl⟩
theorem wz [K:Key] (a b:List Iv):∃ fr,fH a b=swS dD (aV (evA a++evB b)) [] false fr 0 0:=by
 unfold fH
 exact qH dD a b
theorem wy [K:Key] (a b:List Iv):∃ fr,fG a b=swS eM (aV (evA a++evB b)) [] false fr 0 0:=by
 unfold fG
 exact qH eM a b
theorem keep_I:∀ x y,dD x y=(x && y):=fun x y=>by unfold dD; rfl
theorem keep_U:∀ x y,eM x y=(x || y):=fun x y=>by unfold eM; rfl
section
variable {a b:List Iv}
theorem yT [K:Key] (ha:∀ i∈a,Wv i) (hb:∀ i∈b,Wv i):Cn (dp a b)∧∀ x,inP (dp a b) x↔inP a x∧inP b x:=by
 classical
 obtain ⟨fr,e⟩:=wz a b
 obtain ⟨h1,h2⟩:=ui (l:=evA a++evB b) (ev_tm ha hb)
 obtain ⟨h3,h4⟩:=sF (keep:=dD) (by rw [keep_I]; rfl) ha hb h1 h2 fr
 unfold dp
 rw [e]
 refine ⟨h3,fun x=>(h4 x).trans ?_⟩
 rw [keep_I,Bool.and_eq_true,decide_eq_true_eq,decide_eq_true_eq]
theorem xF [K:Key] (ha:∀ i∈a,Wv i) (hb:∀ i∈b,Wv i):Cn (fI a b)∧∀ x,inP (fI a b) x↔inP a x∨inP b x:=by
 classical
 obtain ⟨fr,e⟩:=wy a b
 obtain ⟨h1,h2⟩:=ui (l:=evA a++evB b) (ev_tm ha hb)
 obtain ⟨h3,h4⟩:=sF (keep:=eM) (by rw [keep_U]; rfl) ha hb h1 h2 fr
 unfold fI
 rw [e]
 refine ⟨h3,fun x=>(h4 x).trans ?_⟩
 rw [keep_U,Bool.or_eq_true,decide_eq_true_eq,decide_eq_true_eq]
theorem kP [K:Key] (ha:∀ i∈a,Wv i):Cn (bo a)∧∀ x,inP (bo a) x↔inP a x:=by
 unfold bo
 obtain ⟨h1,h2⟩:=xF ha (b:=[]) (fun _ h=>by cases h)
 exact ⟨h1,fun x=>(h2 x).trans ⟨fun h=>h.resolve_right (l9 x),.inl⟩⟩
theorem wv_sz [K:Key] (h:∀ i∈a,Wv i):All (SzV 30) a:=fun i hi=>⟨dG (tm_sz (h i hi).1.1) (by omega),dG (tm_sz (h i hi).1.2) (by omega)⟩
theorem Cn.sz [K:Key] (h:Cn a):All (SzV 30) a:=wv_sz h.wv
end
end Go.Sx
namespace Go.Sx
open Go Go.RowKit Go.Proofs
set_option maxRecDepth 100000
set_option maxHeartbeats 40000000
attribute [local irreducible] Code.wp wpList Rd Step ObS Ent
attribute [local irreducible] ah ak aq an bN
attribute [local irreducible] aW aR aj aB aM ao
def qAt (q:Qd) (t:GR):GR :=
 (eF (aB (aW q t.p) (aj q.c2 t.r)) (bif t.neg then aM (aR q t.p) else aR q t.p) t.r).1
theorem yq (q:Qd) (t:GR) (k:Nat) (hk:k≤10) (zq:SzD (k+19) q) (zt:SzR (k+19) t) (hr:Sm t.r) (z3:SzQ 30 t.r) (w0:World):Calls Tryz.prog 67 #[vD q,vR t] w0 (dh w0 (vR (qAt q t)) (SzR k (qAt q t))):=by
 refine enter (N:=36) (args:=[vD q,vR t]) Tryz.func67 rfl rfl ?_; intro ac h
 have c1:=kI q t.p (k+9) og zq zt.1
 have s1:=ar (c1 w0)
 have c2:=bq q.c2 t.r (k+9) og (di zq.2.2 og) (di zt.2 og)
 have s2:=ar (c2 w0)
 have c3:=cH (aW q t.p) (aj q.c2 t.r) (k+6) og s1 s2
 have s3:=ar (c3 w0)
 have c4:=iZ q t.p (k+6) og (fD zq og) (di zt.1 og)
 have s4:=ar (c4 w0)
 refine gz h <| (xb) fun b1=>(xb) fun b2=>(xa) fun b3=>(W) ?_; clear h ac; intro ac wo h
 replace h:=h.emps 1
 refine fU mixed [dw (vD q) [2],dv (ptr b2 0),dw (vQ t.p) [1],dv (vQ (aW q t.p)),dv (ptr b1 8),dw (vQ q.c2) [2],dv (ptr b2 4),dw (vQ t.r) [1],dv (vQ (aj q.c2 t.r)),dv (vQ (aB (aW q t.p) (aj q.c2 t.r))),⟨.nd (.one 10 fun x=>∃ b,x=ptr b 0),[3]⟩,dw undef [3]] [⟨_,[]⟩,⟨_,[]⟩,⟨_,[]⟩,⟨.emp,[(10,.one 10 fun x=>.blk (bR x) (cQ oQ) 29),(11,.one 10 fun x=>.blk (bR x) (cQ (aB (aW q t.p) (aj q.c2 t.r))) 29)]⟩] h rfl (by kernel_rfl) ⟨fun _ _=>jB _ rfl rfl (kt Tryz.isAgg72 Tryz.sizeOf72 rfl rfl rfl (v:=vD q) rfl),fun _ _=>bk (fa uu46 rfl zz29 rfl rfl rfl (k':=0)),fun _ _=>jB _ rfl rfl (kt aa29 zz29 rfl rfl rfl (v:=vQ t.p) rfl),oA fun _=>i0 (iC Tryz.call81 rfl c1),fun _ _=>bk (fa Tryz.runUnderlying72 rfl zz29 rfl rfl rfl (k':=8)),fun _ _=>jB _ rfl rfl (kt aa29 zz29 rfl rfl rfl (v:=vQ q.c2) rfl),fun _ _=>bk (fa uu46 rfl zz29 rfl rfl rfl (k':=4)),fun _ _=>jB _ rfl rfl (kt aa29 zz29 rfl rfl rfl (v:=vQ t.r) rfl),oA fun _=>i0 (iC Tryz.call172 rfl c2),oA fun _=>i0 (iC Tryz.call106 rfl c3),fun _ _=>pS 3 rfl (fun _=>rfl),fun ξ hφ=>pQ (u:=vQ (aB (aW q t.p) (aj q.c2 t.r))) 3 (hφ 10 rfl) rfl rfl rfl rfl rfl rfl rfl,trivial⟩ ?_
 clear h ac wo; intro ξ ac wo hφ h
 obtain ⟨b5,hb5⟩:∃ b,ξ 10=ptr b 0:=hφ 10
 replace h:St w0 36 [(2,ptr b1 0),(3,ptr b2 0),(4,ptr b3 0),(5,ξ 10)] [.blk b3 (cR ⟨oQ,oQ,false⟩) 46,.blk b2 (cR t) 46,.blk b1 (cD q) 72,.blk (bR (ξ 10)) (cQ (aB (aW q t.p) (aj q.c2 t.r))) 29] ac wo:=h.sub ⟨rfl,rfl,rfl,rfl,trivial⟩
 rw [hb5] at h
 clear hb5 hφ ξ
 obtain ⟨m,hm⟩:∃ m,(bif t.neg then aM (aR q t.p) else aR q t.p)=m:=⟨_,rfl⟩
 have zm:SzQ (k+6) m:=by
  rw [← hm]; cases t.neg
  · exact s4
  · exact ar ((eN (aR q t.p) (k+6) og s4) w0)
 have c6:=lK (aB (aW q t.p) (aj q.c2 t.r)) m t.r k og s3 zm (di zt.2 og) hr z3
 have e:qAt q t=(eF (aB (aW q t.p) (aj q.c2 t.r)) m t.r).1:=by unfold qAt; rw [hm]
 rw [e]
 obtain ⟨tp,tr,tn⟩:=t
 cases tn
 ·
  subst hm
  refine gz h <| (xk c4) <| (xa) fun b6=>(ai) ?_ ?_ <;> clear h ac wo <;> intro ac wo h hc1
  · cases hc1
  refine gz h <| (xk c6) <| (xa) fun b7=>(W) ?_; clear h ac wo; intro ac wo h
  exact rtc 2 h (h.retP rfl (ar (c6 w0)))
 ·
  subst hm
  have c5:=eN (aR q tp) (k+6) og s4
  refine gz h <| (xk c4) <| (xa) fun b6=>(ai) ?_ ?_ <;> clear h ac wo <;> intro ac wo h hc1
  · refine gz h <| (xk c5) <| (xk c6) <| (xa) fun b7=>(W) ?_; clear h ac wo; intro ac wo h
    exact rtc 2 h (h.retP rfl (ar (c6 w0)))
  · cases hc1
attribute [irreducible] qAt
def minR (l:List GR) (n:Nat):GR:=(List.range n).foldl (fun m i=>bif decide (ah (gt l (i+1)) m < 0) then gt l (i+1) else m) (gt l 0)
end Go.Sx
namespace Go.Sx
open Go Go.RowKit Go.Proofs
set_option maxRecDepth 100000
set_option maxHeartbeats 40000000
attribute [local irreducible] Code.wp wpList Rd Step ObS Ent
attribute [local irreducible] ah ak aq an bN
theorem mY {α:Type} [Inhabited α] {l:List α} {i:Nat} (h:i < l.length):l.take i++[gt l i]=l.take (i+1):=by
 rw [List.take_succ_eq_append_getElem h,gU h]
end Go.Sx
namespace Go.Sx
open Go Go.RowKit Go.Proofs
set_option maxRecDepth 100000
set_option maxHeartbeats 40000000
attribute [local irreducible] Code.wp wpList Rd Step ObS Ent
attribute [local irreducible] ah ak aq an bN
attribute [local irreducible] aW aR aj aB aM ao
def maxR (l:List GR) (n:Nat):GR:=(List.range n).foldl (fun m i=>bif decide (ah (gt l (i+1)) m>0) then gt l (i+1) else m) (gt l 0)
end Go.Sx
namespace Go.Sx
open Go Go.RowKit Go.Proofs
set_option maxRecDepth 100000
set_option maxHeartbeats 40000000
attribute [local irreducible] Code.wp wpList Rd Step ObS Ent
attribute [local irreducible] ah ak aq an bN
attribute [local irreducible] aW aR aj aB aM ao bA
instance yC9_3:Sz Tryz.prog 41 6:=⟨Tryz.sizeOf41⟩
instance yC9_4:Ag Tryz.prog 41 true:=⟨Tryz.isAgg41⟩
instance yC9_5:Sz Tryz.prog 179 3:=⟨Tryz.sizeOf179⟩
instance yC9_6:Ag Tryz.prog 179 true:=⟨Tryz.isAgg179⟩
instance yC9_7:Un Tryz.prog 179 (.array 3 77):=⟨Tryz.runUnderlying179⟩
instance yC9_8:Zc Tryz.prog 179 [.slice none 0 0,.slice none 0 0,.slice none 0 0]:=⟨⟨_,Tryz.zeroValue179,rfl⟩⟩
instance yC9_9:Sz Tryz.prog 181 3:=⟨Tryz.sizeOf181⟩
instance yC9_10:Un Tryz.prog 181 (.array 3 3):=⟨Tryz.runUnderlying181⟩
instance yC9_11:Zc Tryz.prog 181 [.int .i64 0,.int .i64 0,.int .i64 0]:=⟨⟨_,Tryz.zeroValue181,rfl⟩⟩
end Go.Sx
namespace Go.Sx
open Go Go.RowKit Go.Proofs
set_option maxRecDepth 100000
set_option maxHeartbeats 40000000
attribute [local irreducible] Code.wp wpList Rd Step ObS Ent
attribute [local irreducible] ah ak aq an bN
attribute [local irreducible] aW aR aj aB aM ao bA
def FlO (x:GR):Prop:=((ab (ab (aa x.p) (aa x.p)) (ab (ag x.r) (aa x.r))).mag < 4∧SzI 40 (eG x))∧SzR 36 x∧(eG x).mag≤1099511627776
structure BxO (L:List GR):Prop where
 z:∀ i,SzR 36 (gt L i)
 lo:FlO (minR L (L.length - 1))
 hi:FlO (pc (maxR L (L.length - 1)))
 hm:(sR (maxR L (L.length - 1))).mag≤1099511627776
def tri (k:Nat) (a b c:Int):List Value:=[.int .i64 (bif Nat.blt 0 k then a else 0),.int .i64 (bif Nat.blt 1 k then b else 0),.int .i64 (bif Nat.blt 2 k then c else 0)]
end Go.Sx
namespace Go.Sx
open Go Go.RowKit Go.Proofs
set_option maxRecDepth 100000
set_option maxHeartbeats 40000000
attribute [local irreducible] Code.wp wpList Rd Step aav ObS Ent
attribute [local irreducible] ah ak aq an bN
instance yC9_12:Inhabited (GR×Bool):=⟨(⟨oQ,oQ,false⟩,false)⟩
end Go.Sx
namespace Go.Sx
open Go Go.RowKit Go.Proofs
set_option maxRecDepth 100000
set_option maxHeartbeats 40000000
instance yC9_13 (k m:Nat):Decidable (SzB k m):=inferInstanceAs (Decidable (_≤_))
instance yC9_14 (k:Nat) (x:GI):Decidable (SzI k x):=inferInstanceAs (Decidable (SzB _ _))
instance yC9_15 (k:Nat) (x:GQ):Decidable (SzQ k x):=inferInstanceAs (Decidable (_∧_))
instance yC9_16 (k:Nat) (x:GR):Decidable (SzR k x):=inferInstanceAs (Decidable (_∧_))
instance yC9_17 (k:Nat) (x:Iv):Decidable (SzV k x):=inferInstanceAs (Decidable (_∧_))
instance yC9_18 (k:Nat) (x:Ln):Decidable (SzN k x):=inferInstanceAs (Decidable (_∧_))
instance yC9_19 (k:Nat) (x:Pnt):Decidable (SzPt k x):=inferInstanceAs (Decidable (_∧_))
instance yC9_20 (k:Nat) (x:Smp):Decidable (SzSm k x):=inferInstanceAs (Decidable (_∧_))
instance yC9_21 (x:GQ):Decidable (Sm x):=inferInstanceAs (Decidable True)
instance yC9_22 (x:GR):Decidable (FlO x):=inferInstanceAs (Decidable (_∧_))
theorem def_z:SzR 36 default∧SzR 30 default∧Sm (default:GR).r∧SzN 30 default∧SzSm 40 default:=by decide +kernel
end Go.Sx
namespace Go.Sx
open Go Go.RowKit Go.Proofs
set_option maxRecDepth 100000
set_option maxHeartbeats 40000000
attribute [local irreducible] Code.wp wpList Rd Step ObS Ent
attribute [local irreducible] ah ak aq an bN
attribute [local irreducible] aW aR aj aB aM ao bA
theorem BxO.of {L:List GR} (h:(∀ x∈L,SzR 36 x)∧FlO (minR L (L.length - 1))∧FlO (pc (maxR L (L.length - 1)))∧(sR (maxR L (L.length - 1))).mag≤1099511627776):BxO L:=⟨fun i=>All.gt h.1 def_z.1,h.2.1,h.2.2.1,h.2.2.2⟩
end Go.Sx
namespace Go.Sx
open Go Go.RowKit Go.Proofs
set_option maxRecDepth 100000
set_option maxHeartbeats 40000000
attribute [local irreducible] Code.wp wpList Rd Step ObS Ent
attribute [local irreducible] ah ak aq an bN aQ
attribute [local irreducible] aW aR aj aB aM ao bA
def cSq (s:Stq):List Value:=[.int .u8 ((s.time:Nat):Int),.int .u8 ((s.x:Nat):Int),.int .u8 ((s.y:Nat):Int),.int .u8 ((s.kind:Nat):Int)]
def vSq (s:Stq):Value:=.agg (cSq s).toArray
instance yC9_23:Cod Stq:=⟨cSq,4,fun _=>rfl,fun x=>by simp [cSq,Value.oneCell'],by decide⟩
instance yC9_24 (s:Stq):Cel (vSq s) (cSq s):=⟨rfl⟩
instance yC9_25 (s:Stq):Dc (cSq s) (vSq s):=⟨rfl⟩
instance yC9_26:Sz Tryz.prog 24 4:=⟨Tryz.sizeOf24⟩
instance yC9_27:Sz Tryz.prog 148 4:=⟨Tryz.sizeOf148⟩
instance yC9_28:Sz Tryz.prog 22 1:=⟨Tryz.sizeOf22⟩
instance yC9_29:Ag Tryz.prog 24 true:=⟨Tryz.isAgg24⟩
instance yC9_30:Ag Tryz.prog 148 true:=⟨Tryz.isAgg148⟩
instance yC9_31:Ag Tryz.prog 22 false:=⟨Tryz.isAgg22⟩
instance yC9_32:Un Tryz.prog 22 (.slice 148):=⟨Tryz.runUnderlying22⟩
instance yC9_33:Fl Tryz.prog 24 0 5 0:=⟨⟨_,_,uu24,rfl,rfl,rfl⟩⟩
instance yC9_34:Fl Tryz.prog 24 1 5 1:=⟨⟨_,_,uu24,rfl,rfl,rfl⟩⟩
instance yC9_35:Fl Tryz.prog 24 2 5 2:=⟨⟨_,_,uu24,rfl,rfl,rfl⟩⟩
instance yC9_36:Fl Tryz.prog 24 3 22 3:=⟨⟨_,_,uu24,rfl,rfl,rfl⟩⟩
instance yC9_37:Fl Tryz.prog 148 0 5 0:=⟨⟨_,_,uu148,rfl,rfl,rfl⟩⟩
instance yC9_38:Fl Tryz.prog 148 1 5 1:=⟨⟨_,_,uu148,rfl,rfl,rfl⟩⟩
instance yC9_39:Fl Tryz.prog 148 2 5 2:=⟨⟨_,_,uu148,rfl,rfl,rfl⟩⟩
instance yC9_40:Fl Tryz.prog 148 3 5 3:=⟨⟨_,_,uu148,rfl,rfl,rfl⟩⟩
instance yC9_41:Zc Tryz.prog 148 (cSq ⟨0,0,0,0⟩):=⟨⟨_,Tryz.zeroValue148,rfl⟩⟩
instance yC9_42:Sh Tryz.prog 148 Stq vSq:=⟨trivial⟩
section
variable {P:Program} {w0:World} {F:List (Nat×Value)} {t tt:TypeId} {x y:Operand}
end
end Go.Sx
namespace Go.Sx
theorem gt_mem0 {α:Type} [Inhabited α] {l:List α} {i:Nat} (h:i < l.length):gt l i∈l:=by rw [gU h]; exact List.getElem_mem _
section
variable [K:Key]
end
end Go.Sx
