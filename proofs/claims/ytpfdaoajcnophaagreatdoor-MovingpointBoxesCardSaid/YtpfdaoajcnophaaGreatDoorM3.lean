/- A part of the proof of movingpointBoxes. -/
import Derived.Test.YtpfdaoajcnophaaGreatDoorM2
import Derived.Test.YtpfdaoajcnophaaGreatDoorL7
import Derived.Test.YtpfdaoajcnophaaGreatDoorM1
import Derived.Test.YtpfdaoajcnophaaGreatDoorL8
import Derived.Shelf.SlSortCmp.WholeK
import Derived.Test.YtpfdaoajcnophaaGreatDoorL1
set_option linter.unusedVariables false
set_option linter.unusedSimpArgs false
open Go.Proofs.Tryz renaming runUnderlying92 → uu92, isAgg46 → aa46, sizeOf46 → zz46, isAgg4 → aa4, underlying4 → nn4, isAgg27 → aa27, sizeOf27 → zz27
namespace Go.Sx
set_option maxRecDepth 100000
section
variable {α:Type} [Inhabited α] {eqf:α→α→Bool} {same:α→α→GR→Bool} {red:α→GR→α} {D:α→Prop} {n m:List (U α)} {u w:U α}
theorem NF.tail [K:Key] (h:NF eqf same red (u::n)):NF eqf same red n∧(∀ v∈n,fg u.iv < (eW v.iv:Int)):=by
 have ho:=List.pairwise_cons.1 h.ord
 refine ⟨⟨fun x hx=>h.wv x (List.mem_cons_of_mem _ hx),ho.2,fun i hi=>?_,fun x hx=>h.inst x (List.mem_cons_of_mem _ hx)⟩,ho.1⟩
 exact h.lk (i+1) (by simp only [List.length_cons]; omega)
theorem NF.nextLk [K:Key] (h:NF eqf same red (u::n)) (hw:w∈n) (hk:(eW w.iv:Int)=fg u.iv+1):Lk eqf same u w:=by
 cases n with
 | nil=>cases hw
 | cons v n =>
  obtain ⟨h1,h2⟩:=h.tail
  rcases List.mem_cons.1 hw with e | hw
  · rw [e]; exact h.lk 0 (by simp)
  · have a1:=h2 v (List.mem_cons_self ..)
    have a2:=h1.tail.2 w hw
    have a3:=(h1.wv v (List.mem_cons_self ..)).le
    omega
theorem NF.one [K:Key] (h:NF eqf same red n) (hu:u∈n) (hw:w∈n) {q:Nat} (h1:inU u.iv q) (h2:inU w.iv q):u=w:=by
 induction n with
 | nil=>cases hu
 | cons v n ih =>
  obtain ⟨t1,t2⟩:=h.tail
  rcases List.mem_cons.1 hu with e1 | hu2 <;> rcases List.mem_cons.1 hw with e2 | hw2
  · rw [e1,e2]
  · have:=t2 w hw2
    rw [e1] at h1
    have b1:=h1.2; have b2:=h2.1
    omega
  · have:=t2 u hu2
    rw [e2] at h2
    have b1:=h1.1; have b2:=h2.2
    omega
  · exact ih t1 hu2 hw2
omit [Inhabited α] in
theorem Sem.symm [K:Key] (R:Ru D same red) (hn:∀ u∈n,D u.f) (hm:∀ u∈m,D u.f) (h:Sem same n m):Sem same m n:=by
 refine ⟨fun t ht u hu hi=>?_,fun q u hu hi=>?_,fun t ht w hw hi=>?_,fun q w hw hi=>?_⟩
 · obtain ⟨w,h1,h2,h3⟩:=h.c1 t ht u hu hi
   exact ⟨w,h1,h2,R.symm t ht _ _ (hm w h1) (hn u hu) h3⟩
 · obtain ⟨w,h1,h2,h3⟩:=h.c2 q u hu hi
   exact ⟨w,h1,h2,h3.symm⟩
 · obtain ⟨u,h1,h2,h3⟩:=h.s1 t ht w hw hi
   exact ⟨u,h1,h2,R.symm t ht _ _ (hm w hw) (hn u h1) h3⟩
 · obtain ⟨u,h1,h2,h3⟩:=h.s2 q w hw hi
   exact ⟨u,h1,h2,h3.symm⟩
omit [Inhabited α] in
theorem Sem.trans [K:Key] {k:List (U α)} (R:Ru D same red) (hn:∀ u∈n,D u.f) (hm:∀ u∈m,D u.f) (hk:∀ u∈k,D u.f) (h:Sem same n m) (h':Sem same m k):Sem same n k:=by
 refine ⟨fun t ht u hu hi=>?_,fun q u hu hi=>?_,fun t ht w hw hi=>?_,fun q w hw hi=>?_⟩
 · obtain ⟨w,h1,h2,h3⟩:=h'.s1 t ht u hu hi
   obtain ⟨x,h4,h5,h6⟩:=h.s1 t ht w h1 h2
   exact ⟨x,h4,h5,R.trans t ht _ _ _ (hk u hu) (hm w h1) (hn x h4) h3 h6⟩
 · obtain ⟨w,h1,h2,h3⟩:=h'.s2 q u hu hi
   obtain ⟨x,h4,h5,h6⟩:=h.s2 q w h1 h2
   exact ⟨x,h4,h5,h3.trans h6⟩
 · obtain ⟨u,h1,h2,h3⟩:=h.c1 t ht w hw hi
   obtain ⟨x,h4,h5,h6⟩:=h'.c1 t ht u h1 h2
   exact ⟨x,h4,h5,R.trans t ht _ _ _ (hk x h4) (hm u h1) (hn w hw) h6 h3⟩
 · obtain ⟨u,h1,h2,h3⟩:=h.c2 q w hw hi
   obtain ⟨x,h4,h5,h6⟩:=h'.c2 q u h1 h2
   exact ⟨x,h4,h5,h6.trans h3⟩
omit [Inhabited α] in
theorem gL [K:Key] (i:Iv):(i.openLo=false∧eW i=2*tk i.lo)∨(i.openLo=true∧eW i=2*tk i.lo+1):=by
 unfold eW; cases i.openLo <;> simp
omit [Inhabited α] in
theorem l8 [K:Key] (i:Iv):(i.openHi=false∧fg i=2*(tk i.hi:Int))∨(i.openHi=true∧fg i=2*(tk i.hi:Int) - 1):=by
 unfold fg; cases i.openHi <;> simp
omit [Inhabited α] in
theorem nN [K:Key] {i:Iv} (h:Wv i):inU i (eW i):=⟨Nat.le_refl _,h.le⟩
theorem fst_le [K:Key] (hw:Wv w.iv) (hm:NF eqf same red (u::n)) (hS:Sem same (u::n) m) (h:w∈m):eW u.iv≤eW w.iv:=by
 have key:∃ v∈u::n,inU v.iv (eW w.iv):=by
  rcases gL w.iv with ⟨_,e⟩ | ⟨_,e⟩
  · have hi:=nN hw
    rw [e] at hi ⊢
    obtain ⟨v,h1,h2,_⟩:=hS.s1 _ hw.1.1 w h hi
    exact ⟨v,h1,h2⟩
  · have hi:=nN hw
    rw [e] at hi ⊢
    obtain ⟨v,h1,h2,_⟩:=hS.s2 _ w h hi
    exact ⟨v,h1,h2⟩
 obtain ⟨v,h1,h2⟩:=key
 have h3:=h2.1
 rcases List.mem_cons.1 h1 with e | h1
 · rw [← e]; exact h3
 · have:=hm.tail.2 v h1
   have:=(hm.wv u (List.mem_cons_self ..)).le
   omega
theorem lst_le [K:Key] (R:Ru D same red) (hee:∀ a,eqf a a=true) (hn:NF eqf same red (u::n)) (hm:NF eqf same red (w::m)) (hDn:∀ v∈u::n,D v.f) (hDm:∀ v∈w::m,D v.f)
 (hS:Sem same (u::n) (w::m)) (hf:eW u.iv=eW w.iv):fg w.iv≤fg u.iv:=by
 refine Classical.byContradiction fun hlt=>?_
 have hlt:fg u.iv < fg w.iv:=by omega
 have hum:u∈u::n:=List.mem_cons_self ..
 have hwm:w∈w::m:=List.mem_cons_self ..
 have hwu:=hn.wv u hum
 have hww:=hm.wv w hwm
 have hle:=hwu.le
 have nxt:∀ {v:U α},v∈u::n→∀ {q:Nat},(q:Int)=fg u.iv+1→inU v.iv q→v∈n∧eW v.iv=q:=fun {v} hv {q} hq hi=>by
  rcases List.mem_cons.1 hv with e | hv
  · rw [e] at hi; have:=hi.2; omega
  · have:=hn.tail.2 v hv; have:=hi.1; exact ⟨hv,by omega⟩
 have ev:∀ t,Tm t→inU u.iv (2*tk t)→inU w.iv (2*tk t)→same w.f u.f t=true:=fun t ht h1 h2=>by
  obtain ⟨v,k1,k2,k3⟩:=hS.s1 t ht w hwm h2
  rw [hn.one hum k1 h1 k2]; exact k3
 have od:∀ q,inU u.iv (2*q+1)→inU w.iv (2*q+1)→w.f=u.f:=fun q h1 h2=>by
  obtain ⟨v,k1,k2,k3⟩:=hS.s2 q w hwm h2
  rw [hn.one hum k1 h1 k2]; exact k3
 by_cases hi:u.iv.lo=u.iv.hi
 · obtain ⟨o1,o2⟩:=hwu.2.2 (by rw [hi])
   have f1:eW u.iv=2*tk u.iv.lo:=by rcases gL u.iv with ⟨_,e⟩ | ⟨e,_⟩; exact e; rw [o1] at e; cases e
   have l1:fg u.iv=2*(tk u.iv.lo:Int):=by rcases l8 u.iv with ⟨_,e⟩ | ⟨e,_⟩; rw [hi]; exact e; rw [o2] at e; cases e
   obtain ⟨v,k1,k2,k3⟩:=hS.s2 (tk u.iv.lo) w hwm ⟨by omega,by omega⟩
   obtain ⟨k4,k5⟩:=nxt k1 (q:=2*tk u.iv.lo+1) (by omega) k2
   have hlk:=hn.nextLk k4 (by omega)
   have hvlo:v.iv.lo=u.iv.lo:=by
    rcases gL v.iv with ⟨_,e⟩ | ⟨_,e⟩
    · omega
    · exact ((hn.wv v k1).1.1.inj hwu.1.1).1 (by omega)
   have h1:=(hlk (by rw [hvlo,hi])).1 hi
   rw [hvlo] at h1
   have h2:=ev _ hwu.1.1 ⟨by omega,by omega⟩ ⟨by omega,by omega⟩
   rw [k3,h1] at h2; cases h2
 · have hlh:tk u.iv.lo < tk u.iv.hi:=by
    have:=hwu.2.1
    by_cases e:tk u.iv.lo=tk u.iv.hi
    · exact absurd ((hwu.1.1.inj hwu.1.2).1 e) hi
    · omega
   have hfu:=gL u.iv
   have hfe:w.f=u.f:=by
    rcases l8 u.iv with ⟨_,e⟩ | ⟨_,e⟩ <;> rcases hfu with ⟨_,e2⟩ | ⟨_,e2⟩ <;> exact od (tk u.iv.lo) ⟨by omega,by omega⟩ ⟨by omega,by omega⟩
   rcases l8 u.iv with ⟨o,e⟩ | ⟨o,e⟩
   · have hin:inU w.iv (2*tk u.iv.hi+1):=⟨by rcases hfu with ⟨_,e2⟩ | ⟨_,e2⟩ <;> omega,by omega⟩
     obtain ⟨v,k1,k2,k3⟩:=hS.s2 (tk u.iv.hi) w hwm hin
     obtain ⟨k4,k5⟩:=nxt k1 (q:=2*tk u.iv.hi+1) (by omega) k2
     have hlk:=hn.nextLk k4 (by omega)
     have hvlo:v.iv.lo=u.iv.hi:=by
      rcases gL v.iv with ⟨_,e⟩ | ⟨_,e⟩
      · omega
      · exact ((hn.wv v k1).1.1.inj hwu.1.2).1 (by omega)
     have h1:=((hlk hvlo.symm).2 hi).1 o
     rw [← k3,hfe,hee] at h1; cases h1
   · have hin:inU w.iv (2*tk u.iv.hi):=⟨by rcases hfu with ⟨_,e2⟩ | ⟨_,e2⟩ <;> omega,by omega⟩
     obtain ⟨v,k1,k2,k3⟩:=hS.s1 _ hwu.1.2 w hwm hin
     obtain ⟨k4,k5⟩:=nxt k1 (q:=2*tk u.iv.hi) (by omega) k2
     have hlk:=hn.nextLk k4 (by omega)
     obtain ⟨vo,hvlo⟩:v.iv.openLo=false∧v.iv.lo=u.iv.hi:=by
      rcases gL v.iv with ⟨e1,e⟩ | ⟨_,e⟩
      · exact ⟨e1,((hn.wv v k1).1.1.inj hwu.1.2).1 (by omega)⟩
      · omega
     have h1:=((hlk hvlo.symm).2 hi).2 o vo
     rw [hvlo,← hfe,k3] at h1; cases h1
theorem head_eq [K:Key] (R:Ru D same red) (hrc:∀ t,Tm t→∀ f g,D f→D g→same f g t=true→red f t=red g t) (hn:NF eqf same red (u::n)) (hm:NF eqf same red (w::m)) (hDn:∀ v∈u::n,D v.f) (hDm:∀ v∈w::m,D v.f)
 (hS:Sem same (u::n) (w::m)) (hf:eW u.iv=eW w.iv) (hl:fg u.iv=fg w.iv):u=w:=by
 have hum:u∈u::n:=List.mem_cons_self ..
 have hwm:w∈w::m:=List.mem_cons_self ..
 have hwu:=hn.wv u hum
 have hww:=hm.wv w hwm
 have e1:u.iv.lo=w.iv.lo∧u.iv.openLo=w.iv.openLo:=by
  rcases gL u.iv with ⟨o,e⟩ | ⟨o,e⟩ <;> rcases gL w.iv with ⟨o',e'⟩ | ⟨o',e'⟩
  · exact ⟨(hwu.1.1.inj hww.1.1).1 (by omega),by rw [o,o']⟩
  · omega
  · omega
  · exact ⟨(hwu.1.1.inj hww.1.1).1 (by omega),by rw [o,o']⟩
 have e2:u.iv.hi=w.iv.hi∧u.iv.openHi=w.iv.openHi:=by
  rcases l8 u.iv with ⟨o,e⟩ | ⟨o,e⟩ <;> rcases l8 w.iv with ⟨o',e'⟩ | ⟨o',e'⟩
  · exact ⟨(hwu.1.2.inj hww.1.2).1 (by omega),by rw [o,o']⟩
  · omega
  · omega
  · exact ⟨(hwu.1.2.inj hww.1.2).1 (by omega),by rw [o,o']⟩
 have e3:u.f=w.f:=by
  by_cases hi:u.iv.lo=u.iv.hi
  · obtain ⟨o1,o2⟩:=hwu.2.2 (by rw [hi])
    have f1:eW u.iv=2*tk u.iv.lo:=by rcases gL u.iv with ⟨_,e⟩ | ⟨e,_⟩; exact e; rw [o1] at e; cases e
    have hle:=hwu.le
    have h1:=hn.inst u hum hi
    have h2:=hm.inst w hwm (by rw [← e1.1,← e2.1]; exact hi)
    obtain ⟨v,k1,k2,k3⟩:=hS.s1 _ hwu.1.1 w hwm ⟨by omega,by omega⟩
    rw [hn.one k1 hum k2 ⟨by omega,by omega⟩] at k3
    have:=hrc _ hwu.1.1 _ _ (hDm w hwm) (hDn u hum) k3
    rw [← e1.1,this,h1] at h2
    exact h2
  · have hlh:tk u.iv.lo < tk u.iv.hi:=by
     have:=hwu.2.1
     by_cases e:tk u.iv.lo=tk u.iv.hi
     · exact absurd ((hwu.1.1.inj hwu.1.2).1 e) hi
     · omega
    have hin:inU u.iv (2*tk u.iv.lo+1):=by
     rcases gL u.iv with ⟨_,e⟩ | ⟨_,e⟩ <;> rcases l8 u.iv with ⟨_,e'⟩ | ⟨_,e'⟩ <;> exact ⟨by omega,by omega⟩
    have hin2:inU w.iv (2*tk u.iv.lo+1):=by
     have a1:=hin.1; have a2:=hin.2; exact ⟨by omega,by omega⟩
    obtain ⟨v,k1,k2,k3⟩:=hS.s2 _ w hwm hin2
    rw [hn.one k1 hum k2 hin] at k3
    exact k3.symm
 obtain ⟨⟨lo,hi,ol,oh⟩,f⟩:=u
 obtain ⟨⟨lo2,hi2,ol2,oh2⟩,f2⟩:=w
 simp only at e1 e2 e3
 obtain ⟨rfl,rfl⟩:=e1
 obtain ⟨rfl,rfl⟩:=e2
 rw [e3]
theorem yT [K:Key] (R:Ru D same red) (hrc:∀ t,Tm t→∀ f g,D f→D g→same f g t=true→red f t=red g t) (hee:∀ a,eqf a a=true) :
 ∀ {n m:List (U α)},NF eqf same red n→NF eqf same red m→(∀ v∈n,D v.f)→(∀ v∈m,D v.f)→Sem same n m→n=m
 | [],[],_,_,_,_,_=>rfl
 | [],w::m,_,hm,_,_,hS=>by
  have hw:=hm.wv w (List.mem_cons_self ..)
  have hi:=nN hw
  rcases gL w.iv with ⟨_,e⟩ | ⟨_,e⟩
  · rw [e] at hi
    obtain ⟨v,h1,_⟩:=hS.s1 _ hw.1.1 w (List.mem_cons_self ..) hi
    cases h1
  · rw [e] at hi
    obtain ⟨v,h1,_⟩:=hS.s2 _ w (List.mem_cons_self ..) hi
    cases h1
 | u::n,[],hn,_,_,_,hS=>by
  have hw:=hn.wv u (List.mem_cons_self ..)
  have hi:=nN hw
  rcases gL u.iv with ⟨_,e⟩ | ⟨_,e⟩
  · rw [e] at hi
    obtain ⟨v,h1,_⟩:=hS.c1 _ hw.1.1 u (List.mem_cons_self ..) hi
    cases h1
  · rw [e] at hi
    obtain ⟨v,h1,_⟩:=hS.c2 _ u (List.mem_cons_self ..) hi
    cases h1
 | u::n,w::m,hn,hm,hDn,hDm,hS=>by
  have hum:u∈u::n:=List.mem_cons_self ..
  have hwm:w∈w::m:=List.mem_cons_self ..
  have hS':=hS.symm R hDn hDm
  have f1:=fst_le (hm.wv w hwm) hn hS hwm
  have f2:=fst_le (hn.wv u hum) hm hS' hum
  have hf:eW u.iv=eW w.iv:=by omega
  have l1:=lst_le R hee hn hm hDn hDm hS hf
  have l2:=lst_le R hee hm hn hDm hDn hS' hf.symm
  have he:=head_eq R hrc hn hm hDn hDm hS hf (by omega)
  subst he
  obtain ⟨tn,on⟩:=hn.tail
  obtain ⟨tm,om⟩:=hm.tail
  rw [yT R hrc hee tn tm (fun v hv=>hDn v (List.mem_cons_of_mem _ hv)) (fun v hv=>hDm v (List.mem_cons_of_mem _ hv)) ?_]
  refine ⟨fun t ht v hv hi=>?_,fun q v hv hi=>?_,fun t ht v hv hi=>?_,fun q v hv hi=>?_⟩
  · obtain ⟨x,h1,h2,h3⟩:=hS.s1 t ht v (List.mem_cons_of_mem _ hv) hi
    rcases List.mem_cons.1 h1 with e | h1
    · rw [e] at h2; have a1:=om v hv; have a2:=hi.1; have a3:=h2.2; omega
    · exact ⟨x,h1,h2,h3⟩
  · obtain ⟨x,h1,h2,h3⟩:=hS.s2 q v (List.mem_cons_of_mem _ hv) hi
    rcases List.mem_cons.1 h1 with e | h1
    · rw [e] at h2; have a1:=om v hv; have a2:=hi.1; have a3:=h2.2; omega
    · exact ⟨x,h1,h2,h3⟩
  · obtain ⟨x,h1,h2,h3⟩:=hS.c1 t ht v (List.mem_cons_of_mem _ hv) hi
    rcases List.mem_cons.1 h1 with e | h1
    · rw [e] at h2; have a1:=on v hv; have a2:=hi.1; have a3:=h2.2; omega
    · exact ⟨x,h1,h2,h3⟩
  · obtain ⟨x,h1,h2,h3⟩:=hS.c2 q v (List.mem_cons_of_mem _ hv) hi
    rcases List.mem_cons.1 h1 with e | h1
    · rw [e] at h2; have a1:=on v hv; have a2:=hi.1; have a3:=h2.2; omega
    · exact ⟨x,h1,h2,h3⟩
end
end Go.Sx
namespace Go.Sx
open Go Go.RowKit Go.Proofs
set_option maxRecDepth 100000
set_option maxHeartbeats 40000000
attribute [local irreducible] Code.wp wpList Rd Step ObS Ent
attribute [local irreducible] ao aL ah au ax bN
theorem nJ (w : World) : (method (Tryz.prog.types.size + Made.depth) 92 (.agg #[]) "Equal").run Tryz.prog w = .ok (403, .agg #[]) w := nI (P := Tryz.prog) (T := 92) Tryz.type92 (by kernel_rfl) uu92 w
instance yM3_1 : Mt Tryz.prog 92 (.agg #[]) "Equal" 403 := ⟨nJ⟩
theorem my (w : World) : (nilAhead (Tryz.prog.types.size + Made.depth) 92 (.agg #[]) "Equal").run Tryz.prog w = .ok (some false) w := kV (P := Tryz.prog) (T := 92) (f := 403) Tryz.type92 (by kernel_rfl) uu92 w
instance yM3_2 : Nl Tryz.prog 92 (.agg #[]) "Equal" := ⟨my⟩
theorem mA (w : World) : (method (Tryz.prog.types.size + Made.depth) 92 (.agg #[]) "Reduce").run Tryz.prog w = .ok (404, .agg #[]) w := nI (P := Tryz.prog) (T := 92) Tryz.type92 (by kernel_rfl) uu92 w
instance yM3_3 : Mt Tryz.prog 92 (.agg #[]) "Reduce" 404 := ⟨mA⟩
theorem lO (w : World) : (nilAhead (Tryz.prog.types.size + Made.depth) 92 (.agg #[]) "Reduce").run Tryz.prog w = .ok (some false) w := kV (P := Tryz.prog) (T := 92) (f := 404) Tryz.type92 (by kernel_rfl) uu92 w
instance yM3_4 : Nl Tryz.prog 92 (.agg #[]) "Reduce" := ⟨lO⟩
theorem po (w : World) : (method (Tryz.prog.types.size + Made.depth) 92 (.agg #[]) "Same").run Tryz.prog w = .ok (405, .agg #[]) w := nI (P := Tryz.prog) (T := 92) Tryz.type92 (by kernel_rfl) uu92 w
instance yM3_5 : Mt Tryz.prog 92 (.agg #[]) "Same" 405 := ⟨po⟩
theorem nH (w : World) : (nilAhead (Tryz.prog.types.size + Made.depth) 92 (.agg #[]) "Same").run Tryz.prog w = .ok (some false) w := kV (P := Tryz.prog) (T := 92) (f := 405) Tryz.type92 (by kernel_rfl) uu92 w
instance yM3_6 : Nl Tryz.prog 92 (.agg #[]) "Same" := ⟨nH⟩
end Go.Sx
namespace Go.Sx
open Go Go.RowKit Go.Proofs
set_option maxRecDepth 100000
set_option maxHeartbeats 40000000
attribute [local irreducible] Code.wp wpList Rd Step ObS Ent
attribute [local irreducible] ao aL ah au ax bN
theorem eqi86:EqIn Tryz.prog 5 74 vV:=eqS (c:=cV) (fun _=>rfl) Tryz.underlying74 Tryz.stoodInHeld74 fun d x y w hd=>by
 refine Eq.trans (eqF (by decide) (dc aa46 zz46 (v:=vR (x.lo)) rfl w) (dc aa46 zz46 (v:=vR (y.lo)) rfl w) (z7 d _ _ w og) (eqF (by decide) (dc aa46 zz46 (v:=vR (x.hi)) rfl w) (dc aa46 zz46 (v:=vR (y.hi)) rfl w) (z7 d _ _ w og) (eqF (by decide) (eJ aa4 rfl w) (eJ aa4 rfl w) (eqB nn4 d og _ _ w) (eqF (by decide) (eJ aa4 rfl w) (eJ aa4 rfl w) (eqB nn4 d og _ _ w) eqF0)))) ?_
 congr 1
 rw [decide_eq_decide]
 cases x; cases y; simp
theorem eqp86:EqP Tryz.prog 74 vV:=EqIn.p (k:=5) rfl (c:=fun x=>(cV x).toArray) (fun _=>rfl) Tryz.eqGuardType74 eqi86
instance yM3_7:Ep Tryz.prog 74 Iv inferInstance vV:=⟨eqp86⟩
instance yM3_8 : Mt Tryz.prog 92 (.agg #[]) "Equal" 403 := ⟨nJ⟩
instance yM3_9 : Nl Tryz.prog 92 (.agg #[]) "Equal" := ⟨my⟩
end Go.Sx
namespace Go.Sx
open Go Go.RowKit Go.Proofs
set_option maxRecDepth 100000
set_option maxHeartbeats 40000000
attribute [local irreducible] Code.wp wpList Rd Step ObS Ent
attribute [local irreducible] ao aL ah au ax bN
instance yM3_10 : Mt Tryz.prog 92 (.agg #[]) "Reduce" 404 := ⟨mA⟩
instance yM3_11 : Nl Tryz.prog 92 (.agg #[]) "Reduce" := ⟨lO⟩
instance yM3_12 : Mt Tryz.prog 92 (.agg #[]) "Same" 405 := ⟨po⟩
instance yM3_13 : Nl Tryz.prog 92 (.agg #[]) "Same" := ⟨nH⟩
end Go.Sx
namespace Go.Sx
end Go.Sx
namespace Go.Sx
open Go Go.RowKit Go.Proofs
set_option maxRecDepth 100000
set_option maxHeartbeats 40000000
attribute [local irreducible] Code.wp wpList Rd Step ObS Ent
attribute [local irreducible] ao aL ah au ax bN
instance yM3_14:Ep Tryz.prog 74 Iv inferInstance vV:=⟨eqp86⟩
end Go.Sx
namespace Go.Sx
open Go Go.RowKit Go.Proofs
set_option maxRecDepth 100000
set_option maxHeartbeats 40000000
attribute [local irreducible] Code.wp wpList Rd Step ObS Ent
attribute [local irreducible] ao aL ah au ax bN
def dD (a:GI):Int :=
 bif (((decide (a.mag=0)) && a.neg) || ((!(decide (a.mag=0))) && (((((nB a.mag):Nat):Int)) == (((0:Nat):Int))))) then
  5
 else
  0
theorem jd (a:GI) (za:SzI 16 a) (w0:World) :Calls Tryz.prog 94 #[(vI a)] w0 (dE w0 (.int .i64 (dD a)) (True)):=by
 refine enter (N:=21) (args:=[(vI a)]) Tryz.func94 rfl rfl ?_; intro ac h
 refine gz h <| (xb) fun b1=>(xg (hs:=by exact fun hg=>(Rd.of_nil (u6 Tryz.runUnderlying9 (f7 rfl hg) rfl og)).step)) <| (ai) ?_ ?_ <;> clear h ac <;> intro ac wo h hc1
 ·
  have hq1:=hc1; try simp at hq1
  have hd:dD a=5:=pt
  refine gz h <| (W) ?_; clear h ac wo; intro ac wo h
  exact (rt h) (h.retP (by rw [hd] <;> rfl) trivial)
 ·
  have hq1:=hc1; try simp at hq1
  have hd:dD a=0:=pt
  refine gz h <| (W) ?_; clear h ac wo; intro ac wo h
  exact (rt h) (h.retP (by rw [hd] <;> rfl) trivial)
attribute [irreducible] dD
def cP (a:GQ):Int :=
 bif (((dD a.num) != 0) || ((dD a.den) != 0)) then
  5
 else
  bif (decide (a.den=(⟨false,0⟩:GI))) then
   0
  else
   bif ((decide ((dx a.den rational_one)≤0)) || (!(decide ((aW a.num a.den)=rational_one)))) then
    5
   else
    0
theorem fq (a:GQ) (za:SzQ 16 a) (w0:World) :Calls Tryz.prog 15 #[(vQ a)] w0 (dE w0 (.int .i64 (cP a)) (True)):=by
 refine enter (N:=31) (args:=[(vQ a)]) Tryz.func15 rfl rfl ?_; intro ac h
 refine gz h <| (xb) fun b1=>(xk (jd a.num za.1)) <| (xg (hs:=by exact fun hg=>gk enA (kk (jd a.den za.2)))) <| (ai) ?_ ?_ <;> clear h ac <;> intro ac wo h hc1
 ·
   have hq1:=hc1; try simp at hq1
   have hd:cP a=5:=pt
   refine gz h <| (W) ?_; clear h ac wo; intro ac wo h
   exact (rt h) (h.retP (by rw [hd] <;> rfl) trivial)
 ·
   have hq1:=hc1; try simp at hq1
   refine gz h <| (xo (hs:=by exact bK pM exs rfl (v:=(vI (⟨false,0⟩:GI))) rfl)) <| (ai) ?_ ?_ <;> clear h ac wo <;> intro ac wo h hc2
   ·
     have hd2:=of_decide_eq_true hc2
     have hd:cP a=0:=pt
     refine gz h <| (W) ?_; clear h ac wo; intro ac wo h
     exact (rt h) (h.retP (by rw [hd] <;> rfl) trivial)
   ·
     have hd2:=of_decide_eq_false hc2
     refine gz h <| (W) ?_; clear h ac wo; intro ac wo h
     have c1:=fb  40 og
     have s1:=ap (c1 w0)
     have p3:=ap ((gu a.den rational_one 16 og za.2 (fA s1 og)) w0)
     have s4:=ap ((iV a.num a.den 16 og za.1 za.2) w0)
     have s5:=ap ((fb  40 og ) w0)
     refine gz h <| (dr0 (hob:=(oK (c1)) <| (oK (gu a.den rational_one 16 og za.2 (fA s1 og))) <| (oG (by exact fun hg=>iV a.num a.den 16 og za.1 za.2)) <| (oG (by exact fun hg=>fb  40 og)) <| oE)) <| (ai) ?_ ?_ <;> clear h ac wo <;> intro ac wo h hc3
     ·
       have hq3:=hc3; try simp at hq3
       have hd:cP a=5:=pt
       refine gz h <| (W) ?_; clear h ac wo; intro ac wo h
       exact (rt h) (h.retP (by rw [hd] <;> rfl) trivial)
     ·
       have hq3:=hc3; try simp at hq3
       have hd:cP a=0:=pt
       refine gz h <| (W) ?_; clear h ac wo; intro ac wo h
       exact (rt h) (h.retP (by rw [hd] <;> rfl) trivial)
attribute [irreducible] cP
end Go.Sx
namespace Go.Sx
open Go Go.RowKit Go.Proofs
set_option maxRecDepth 100000
set_option maxHeartbeats 40000000
attribute [local irreducible] Code.wp wpList Rd Step ObS Ent
attribute [local irreducible] ao aL ah au ax bN
def aN (i:Iv):Bd :=
 (⟨i.lo,i.openLo⟩:Bd)
theorem fU (i:Iv) (zi:SzV 30 i) (w0:World) :Calls Tryz.prog 136 #[(vV i)] w0 (dE w0 (vW (aN i)) (SzW 30 (aN i))):=by
 refine enter (N:=8) (args:=[(vV i)]) Tryz.func136 rfl rfl ?_; intro ac h
 refine gz h <| (xb) fun b1=>(xa) fun b2=>(xo (hs:=by exact bK bld206 exs rfl (v:=(vW (⟨i.lo,i.openLo⟩:Bd))) rfl)) <| (W) ?_; clear h ac; intro ac wo h
 exact ret h rfl (.cell (v:=(vW (⟨i.lo,i.openLo⟩:Bd))) rfl (i:=0) rfl Tryz.isAgg199 Tryz.sizeOf199 rfl rfl rfl .nil) rfl (h.retP (by unfold aN; rfl) (by unfold aN; exact zi.1))
attribute [irreducible] aN
def aG (i:Iv):Bd :=
 (⟨i.hi,(!i.openHi)⟩:Bd)
theorem gh (i:Iv) (zi:SzV 30 i) (w0:World) :Calls Tryz.prog 137 #[(vV i)] w0 (dE w0 (vW (aG i)) (SzW 30 (aG i))):=by
 refine enter (N:=9) (args:=[(vV i)]) Tryz.func137 rfl rfl ?_; intro ac h
 refine gz h <| (xb) fun b1=>(xa) fun b2=>(xo (hs:=by exact bK bld206 exs rfl (v:=(vW (⟨i.hi,(!i.openHi)⟩:Bd))) rfl)) <| (W) ?_; clear h ac; intro ac wo h
 exact ret h rfl (.cell (v:=(vW (⟨i.hi,(!i.openHi)⟩:Bd))) rfl (i:=0) rfl Tryz.isAgg199 Tryz.sizeOf199 rfl rfl rfl .nil) rfl (h.retP (by unfold aG; rfl) (by unfold aG; exact zi.2))
attribute [irreducible] aG
def bR (a:Bd) (b:Bd):Int :=
 bif ((ao a.at_ b.at_) != 0) then
  (ao a.at_ b.at_)
 else
  bif (a.behind == b.behind) then
   0
  else
   bif b.behind then
    (-1)
   else
    1
theorem iJ (a:Bd) (b:Bd) (za:SzW 30 a) (zb:SzW 30 b) (w0:World) :Calls Tryz.prog 135 #[(vW a),(vW b)] w0 (dE w0 (.int .i64 (bR a b)) ((-1≤(bR a b)∧(bR a b)≤1))):=by
 refine enter (N:=23) (args:=[(vW a),(vW b)]) Tryz.func135 rfl rfl ?_; intro ac h
 have p2:=ap ((dO a.at_ b.at_ 10 og za zb) w0)
 refine gz h <| (xb) fun b1=>(xb) fun b2=>(xk (dO a.at_ b.at_ 10 og za zb)) <| (ai) ?_ ?_ <;> clear h ac <;> intro ac wo h hc1
 ·
  have hq1:=hc1; try simp at hq1
  have hd:bR a b=(ao a.at_ b.at_):=pt
  refine gz h <| (W) ?_; clear h ac wo; intro ac wo h
  exact (rt h) (h.retP (by rw [hd] <;> rfl) (by rw [hd]; exact og))
 ·
  have hq1:=hc1; try simp at hq1
  refine gz h <| (xo (hs:=by exact yH nn4 rfl rfl)) <| (ai) ?_ ?_ <;> clear h ac wo <;> intro ac wo h hc2
  ·
   have hd2:=eq_of_beq hc2
   have hd:bR a b=0:=pt
   refine gz h <| (W) ?_; clear h ac wo; intro ac wo h
   exact (rt h) (h.retP (by rw [hd] <;> rfl) (by rw [hd]; exact og))
  ·
   have hd2:=ne_of_beq_false hc2
   refine gz h <| (ai) ?_ ?_ <;> clear h ac wo <;> intro ac wo h hc3
   ·
    have hq3:=hc3; try simp at hq3
    have hd:bR a b=(-1):=pt
    refine gz h <| (W) ?_; clear h ac wo; intro ac wo h
    exact (rt h) (h.retP (by rw [hd] <;> rfl) (by rw [hd]; exact og))
   ·
    have hq3:=hc3; try simp at hq3
    have hd:bR a b=1:=pt
    refine gz h <| (W) ?_; clear h ac wo; intro ac wo h
    exact (rt h) (h.retP (by rw [hd] <;> rfl) (by rw [hd]; exact og))
attribute [irreducible] bR
end Go.Sx
namespace Go.Sx
open Go Go.RowKit Go.Proofs
set_option maxRecDepth 100000
set_option maxHeartbeats 40000000
attribute [local irreducible] Code.wp wpList Rd Step ObS Ent
attribute [local irreducible] ao aL ah au ax bN
theorem sI (w : World) : (method (Tryz.prog.types.size + Made.depth) 92 (.agg #[]) "Check").run Tryz.prog w = .ok (402, .agg #[]) w := nI (P := Tryz.prog) (T := 92) Tryz.type92 (by kernel_rfl) uu92 w
instance yM3_15 : Mt Tryz.prog 92 (.agg #[]) "Check" 402 := ⟨sI⟩
theorem rq (w : World) : (nilAhead (Tryz.prog.types.size + Made.depth) 92 (.agg #[]) "Check").run Tryz.prog w = .ok (some false) w := kV (P := Tryz.prog) (T := 92) (f := 402) Tryz.type92 (by kernel_rfl) uu92 w
instance yM3_16 : Nl Tryz.prog 92 (.agg #[]) "Check" := ⟨rq⟩
def a7 (a:GI):GI×Bool :=
 bif a.neg then
  ((⟨false,0⟩:GI),false)
 else
  bif (!(decide ((dX (bC a.mag) (bC a.mag))=a.mag))) then
   ((⟨false,0⟩:GI),false)
  else
   ((aB false (bC a.mag)),true)
theorem jg (a:GI) (za:SzI 30 a) (w0:World) :Calls Tryz.prog 228 #[(vI a)] w0 (dE w0 (.tuple #[(vI ((a7 a).1)),(.bool ((a7 a).2))]) (SzI 28 ((a7 a).1))):=by
 refine enter (N:=20) (args:=[(vI a)]) Tryz.func228 rfl rfl ?_; intro ac h
 refine gz h <| (xb) fun b1=>(xa) fun b2=>(ai) ?_ ?_ <;> clear h ac <;> intro ac wo h hc1
 ·
   have hq1:=hc1; try simp at hq1
   have hd:a7 a=((⟨false,0⟩:GI),false):=pt
   refine gz h <| (xo (hs:=by exact bK pM exs rfl (v:=(vI (⟨false,0⟩:GI))) rfl)) <| (W) ?_; clear h ac wo; intro ac wo h
   exact ret h rfl (.cell (v:=(vI (⟨false,0⟩:GI))) rfl (i:=0) rfl aa27 zz27 rfl rfl rfl (.tmp rfl .nil)) rfl (h.retP (by rw [hd] <;> rfl) (by rw [hd]; exact (cX 0 (by decide) og)))
 ·
   have hq1:=hc1; try simp at hq1
   have c1:=yv a.mag za
   have s1:=Calls.pr (c1 w0)
   refine gz h <| (xk (c1)) <| (W) ?_; clear h ac wo; intro ac wo h
   have c2:=jQ (bC a.mag) (bC a.mag) 28 og s1 s1
   have s2:=ap (c2 w0)
   refine gz h <| (dr0 (hob:=(oK (c2)) <| oE)) <| (ai) ?_ ?_ <;> clear h ac wo <;> intro ac wo h hc2
   ·
     have hq2:=hc2; try simp at hq2
     have hd:a7 a=((⟨false,0⟩:GI),false):=pt
     refine gz h <| (xo (hs:=by exact bK pM exs rfl (v:=(vI (⟨false,0⟩:GI))) rfl)) <| (W) ?_; clear h ac wo; intro ac wo h
     exact ret h rfl (.cell (v:=(vI (⟨false,0⟩:GI))) rfl (i:=0) rfl aa27 zz27 rfl rfl rfl (.tmp rfl .nil)) rfl (h.retP (by rw [hd] <;> rfl) (by rw [hd]; exact (cX 0 (by decide) og)))
   ·
     have hq2:=hc2; try simp at hq2
     have c3:=bU false (bC a.mag) 29 og s1
     have s3:=ap (c3 w0)
     have hd:a7 a=((aB false (bC a.mag)),true):=pt
     refine gz h <| (xk (c3)) <| (W) ?_; clear h ac wo; intro ac wo h
     exact ret h rfl (.cell (v:=(vI (aB false (bC a.mag)))) rfl (i:=0) rfl aa27 zz27 rfl rfl rfl (.tmp rfl .nil)) rfl (h.retP (by rw [hd] <;> rfl) (by rw [hd]; exact (fA s3 og)))
attribute [irreducible] a7
def bJ (a:GQ):GQ×Bool :=
 bif ((!(a7 a.num).2) || (!(a7 (aa a)).2)) then
  ((⟨(⟨false,0⟩:GI),(⟨false,0⟩:GI)⟩:GQ),false)
 else
  ((ba ((a7 a.num).1) ((a7 (aa a)).1)),true)
theorem nc (a:GQ) (za:SzQ 30 a) (w0:World) :Calls Tryz.prog 124 #[(vQ a)] w0 (dE w0 (.tuple #[(vQ ((bJ a).1)),(.bool ((bJ a).2))]) (SzQ 20 ((bJ a).1))):=by
 refine enter (N:=30) (args:=[(vQ a)]) Tryz.func124 rfl rfl ?_; intro ac h
 have c1:=jg a.num za.1
 have s1:=Calls.pr (c1 w0)
 have c2:=bE a 30 og za
 have s2:=ap (c2 w0)
 have c3:=jg (aa a) s2
 have s3:=Calls.pr (c3 w0)
 refine gz h <| (xb) fun b1=>(xa) fun b2=>(xk (c1)) <| (xa) fun b3=>(xk (c2)) <| (xk (c3)) <| (xa) fun b4=>(ai) ?_ ?_ <;> clear h ac <;> intro ac wo h hc1
 ·
  have hq1:=hc1; try simp at hq1
  have hd:bJ a=(oQ,false):=pt
  refine gz h <| (xo (hs:=by exact bK nv exs rfl (v:=(vQ oQ)) rfl)) <| (W) ?_; clear h ac wo; intro ac wo h
  exact ret h rfl (.cell (v:=(vQ oQ)) rfl (i:=2) rfl Tryz.isAgg29 Tryz.sizeOf29 rfl rfl rfl (.tmp rfl .nil)) rfl (h.retP (by rw [hd] <;> rfl) (by rw [hd]; exact ⟨(cX 0 (by decide) og),(cX 0 (by decide) og)⟩))
 ·
  have hq1:=hc1; try simp at hq1
  have c4:=ee ((a7 a.num).1) ((a7 (aa a)).1) 27 og s1 s3
  have s4:=ap (c4 w0)
  have hd:bJ a=((ba ((a7 a.num).1) ((a7 (aa a)).1)),true):=pt
  refine gz h <| (xk (c4)) <| (W) ?_; clear h ac wo; intro ac wo h
  exact ret h rfl (.cell (v:=(vQ (ba ((a7 a.num).1) ((a7 (aa a)).1)))) rfl (i:=2) rfl Tryz.isAgg29 Tryz.sizeOf29 rfl rfl rfl (.tmp rfl .nil)) rfl (h.retP (by rw [hd] <;> rfl) (by rw [hd]; exact (cu s4 og)))
attribute [irreducible] bJ
def jZ (x:GR):Int :=
 bif (((cP x.p) != 0) || ((cP x.r) != 0)) then
  5
 else
  bif ((au x.r) == (-1)) then
   5
  else
   bif ((au x.r) == 0) then
    bif x.neg then
     5
    else
     0
   else
    bif (bJ x.r).2 then
     5
    else
     0
attribute [irreducible] jZ
def fS (i:Iv):Int :=
 bif (((jZ i.lo) != 0) || ((jZ i.hi) != 0)) then
  5
 else
  bif (decide ((bR (aN i) (aG i))≥0)) then
   10
  else
   0
attribute [irreducible] fS
end Go.Sx
namespace Go.Sx
theorem vn:∀ (f n:Nat),n≤f→n≠0→((leF f n).reverse.headD 0).toNat≠0
 | 0,n,h,h0=>absurd (by omega) h0
 | f+1,n,h,h0=>by
  unfold leF
  have hb:Nat.beq n 0=false:=by
   cases e:Nat.beq n 0 with
   | false=>rfl
   | true=>exact absurd (Nat.eq_of_beq_eq_true e) h0
  rw [hb,cond_false,List.reverse_cons]
  by_cases e:n / 256=0
  · rw [e,lD]
    show (UInt8.ofNat (n % 256)).toNat≠0
    rw [UInt8.toNat_ofNat']
    omega
  · have ih:=vn f (n / 256) (by omega) e
    cases hr:(leF f (n / 256)).reverse with
    | nil =>
     rw [hr] at ih
     exact absurd rfl ih
    | cons x q =>
     rw [hr] at ih
     exact ih
theorem topb_ne {m:Nat} (h:m≠0):nB m≠0:=vn m m (Nat.le_refl m) h
theorem icheck {a:GI} (h:IOk a):dD a=0:=by
 unfold dD
 by_cases e:a.mag=0
 · rw [decide_eq_true e,h e]; rfl
 · rw [decide_eq_false e,show ((((nB a.mag):Nat):Int) == (((0:Nat):Int)))=false from beq_eq_false_iff_ne.2 (by have:=topb_ne e; omega)]
   rfl
theorem qcheck {a:GQ} (h:QOk a):cP a=0:=by
 obtain ⟨h1,h2,h3⟩:=h
 have hd:IOk a.den:=by
  rcases h2 with e | ⟨e,_⟩
  · rw [e]; intro _; rfl
  · intro _; exact e
 unfold cP
 rw [icheck h1,icheck hd]
 by_cases e:a.den=z0
 · rw [decide_eq_true (show a.den=⟨false,0⟩ from e)]; rfl
 · rw [decide_eq_false (show ¬ a.den=⟨false,0⟩ from e)]
   obtain ⟨n1,n2⟩:=h2.resolve_left e
   have h3:Nat.Coprime a.num.mag a.den.mag:=by unfold gy at h3; rwa [if_neg e] at h3
   have hv:dN a.den=(a.den.mag:Int):=by unfold dN; rw [n1]; rfl
   have c1:dx a.den rational_one=1:=by
    rw [mg (b:=rational_one) hd (kn 1),hv,rj]
    unfold icmp
    rw [if_neg (by omega),if_pos (by omega)]
   have c2:aW a.num a.den=rational_one:=by
    unfold aW
    rw [show Nat.gcd a.num.mag a.den.mag=1 from h3]; rfl
   rw [c1,decide_eq_true c2]; rfl
theorem isq_sq {a:GI} (h:(a7 a).2=true):∃ n:Nat,a.mag=n*n:=by
 unfold a7 at h
 cases hn:a.neg with
 | true=>rw [hn] at h; cases h
 | false =>
  rw [hn,cond_false] at h
  by_cases e:dX (bC a.mag) (bC a.mag)=a.mag
  · exact ⟨bC a.mag,e.symm⟩
  · rw [decide_eq_false e] at h; cases h
theorem yu {r:GQ} (hr:QOk r) (hp:0≤aZ r) (hs:∀ q:Rat,q*q≠aZ r):(bJ r).2=false:=by
 unfold bJ
 cases h1:(a7 r.num).2 with
 | false=>rfl
 | true =>
  cases h2:(a7 (aa r)).2 with
  | false=>rfl
  | true =>
   exfalso
   obtain ⟨n,hn⟩:=isq_sq h1
   obtain ⟨d,hd⟩:=isq_sq h2
   obtain ⟨e1,e2⟩:=iu hr
   have hdm:(aa r).mag=gy r:=by
    have:=f4 (aa r); rw [e1] at this; simpa using this.symm
   have hq:=tX hr
   have hden:(gy r:Rat)≠0:=lZ hr
   refine hs ((n:Rat) / (d:Rat)) ?_
   have hd2:(gy r:Rat)=(d:Rat)*(d:Rat):=by rw [← Rat.natCast_mul,← hd,hdm]
   have hnum:(dN r.num:Rat)=(n:Rat)*(n:Rat):=by
    have h0:0≤(dN r.num:Rat):=by
     have h3:aZ r*(gy r:Rat)=(dN r.num:Rat):=by unfold aZ; rw [Rat.div_mul_cancel hden]
     rw [← h3]; exact gD hp (by rw [hd2]; exact kr _)
    have h4:0≤dN r.num:=by
     have:((0:Int):Rat)≤(dN r.num:Rat):=h0
     exact Rat.intCast_le_intCast.1 this
    have h5:(dN r.num)=((r.num.mag:Nat):Int):=by have:=f4 r.num; omega
    rw [h5,Rat.intCast_natCast,hn,Rat.natCast_mul]
   have hd0:(d:Rat)≠0:=fun e=>hden (by rw [hd2,e]; grind)
   unfold aZ
   rw [hnum,hd2]
   exact div_sq hd0
theorem n8 [K:Key] {x:GR} (hx:Tm x):jZ x=0:=by
 obtain ⟨hp,hr,h⟩:=hx.ok
 unfold jZ
 rw [qcheck hp,qcheck hr,iP hr]
 rcases h with ⟨h1,h2⟩ | ⟨h1,h2⟩
 · rw [h1,h2]; rfl
 · rw [show rsgn (aZ x.r)=1 by unfold rsgn; rw [if_neg (by grind),if_pos h1],yu hr (by grind) h2]; rfl
theorem vcheck [K:Key] {i:Iv} (h:Wv i):fS i=0:=by
 unfold fS
 rw [n8 h.1.1,n8 h.1.2]
 have hc:bR (aN i) (aG i)=-1:=by
  unfold bR aN aG
  show (bif ((ao i.lo i.hi) != 0) then (ao i.lo i.hi) else bif (i.openLo == !i.openHi) then 0 else bif !i.openHi then (-1) else 1)=-1
  rw [h.1.1.cmp h.1.2]
  rcases Nat.lt_trichotomy (tk i.lo) (tk i.hi) with e | e | e
  · rw [je e]; rfl
  · obtain ⟨o1,o2⟩:=h.2.2 e
    rw [e,fY,o1,o2]; rfl
  · have:=h.2.1; omega
 rw [hc]; rfl
end Go.Sx
namespace Go.Sx
section
variable {α:Type} [Inhabited α] {eqf:α→α→Bool} {same:α→α→GR→Bool} {red:α→GR→α} {L out:List (U α)} {x:Nat} {t t':GR} {f:α}
def Vl [K:Key] (out:List (U α)):Prop:=∀ u∈out,Tv u.iv∧tk u.iv.lo≤tk u.iv.hi
omit [Inhabited α] in
theorem Vl.app [K:Key] {y:U α} (h:Vl out) (h1:Tv y.iv) (h2:tk y.iv.lo≤tk y.iv.hi):Vl (out++[y]):=fun u hu=>by
 rcases List.mem_append.1 hu with hu | hu
 · exact h u hu
 · rw [List.mem_singleton.1 hu]; exact ⟨h1,h2⟩
omit [Inhabited α] in
theorem Vl.set [K:Key] {y:U α} {i:Nat} (h:Vl out) (h1:Tv y.iv) (h2:tk y.iv.lo≤tk y.iv.hi):Vl (out.set i y):=fun u hu=>by
 rcases List.mem_or_eq_of_mem_set hu with hu | rfl
 · exact h u hu
 · exact ⟨h1,h2⟩
theorem newPt_or:kF same red L out x=out∨kF same red L out x=out++[⟨(gt L x).iv,red (gt L x).f (gt L x).iv.lo⟩]:=by
 unfold kF
 cases (((decide (((x+1:Nat):Int) < ((L.length:Nat):Int))) && (decide (((gt L (x+1)).iv).lo=((gt L x).iv).lo))) && (same ((gt L (x+1)).f) ((gt L x).f) (((gt L x).iv).lo)))
 · exact .inr rfl
 · exact .inl rfl
theorem pt_any [K:Key] (hx:gt L x=ptU t f) (ht:Tm t) (h:Vl out):Vl (dT eqf same red L out x)∧(dT eqf same red L out x).length≤out.length+1:=by
 have hn:Vl (kF same red L out x)∧(kF same red L out x).length≤out.length+1:=by
  rcases newPt_or (same:=same) (red:=red) (L:=L) (out:=out) (x:=x) with e | e
  · rw [e]; exact ⟨h,Nat.le_succ _⟩
  · rw [e,hx]; exact ⟨h.app ⟨ht,ht⟩ (Nat.le_refl _),by simp⟩
 unfold dT
 rw [hx,show aM (ptU t f).iv=true from decide_eq_true rfl,Bool.not_true,cond_false,cond_false]
 cases hb:tD L out x with
 | false=>exact hn
 | true =>
  rw [cond_true]
  cases same (gt out (out.length - 1)).f (ptU t f).f (ptU t f).iv.lo with
  | false=>exact hn
  | true =>
   obtain ⟨b1,_,_⟩:=jp.1 hb
   have hm:=h _ (fV b1)
   exact ⟨h.set hm.1 hm.2,by rw [cond_true,List.length_set]; exact Nat.le_succ _⟩
theorem pt_left [K:Key] (hx:gt L x=ptU t f) (ht:Tm t) (h:Vl out) (hn:x+1 < L.length) (h2:(gt L (x+1)).iv.lo=t) (h3:same (gt L (x+1)).f f t=true):Vl (dT eqf same red L out x)∧(dT eqf same red L out x).length≤out.length:=by
 have hp:kF same red L out x=out:=by
  unfold kF
  rw [hx]
  show (bif (((decide (((x+1:Nat):Int) < ((L.length:Nat):Int))) && (decide ((gt L (x+1)).iv.lo=t))) && (same ((gt L (x+1)).f) f t)) then out else _)=out
  rw [decide_eq_true (by omega:((x+1:Nat):Int) < ((L.length:Nat):Int)),h2,decide_eq_true rfl,h3]
  rfl
 unfold dT
 rw [hp,hx,show aM (ptU t f).iv=true from decide_eq_true rfl,Bool.not_true,cond_false,cond_false]
 cases hb:tD L out x with
 | false=>exact ⟨h,Nat.le_refl _⟩
 | true =>
  rw [cond_true]
  cases same (gt out (out.length - 1)).f (ptU t f).f (ptU t f).iv.lo with
  | false=>exact ⟨h,Nat.le_refl _⟩
  | true =>
   obtain ⟨b1,_,_⟩:=jp.1 hb
   have hm:=h _ (fV b1)
   exact ⟨h.set hm.1 hm.2,by rw [cond_true,List.length_set]; exact Nat.le_refl _⟩
theorem yW (hx:gt L x=mP t t' f):∃ b,i4 L out x=out++[⟨⟨t,t',b,true⟩,f⟩]:=by
 unfold i4
 rw [hx]
 cases ((((decide (((x:Nat):Int)>0)) && (aM ((gt L (x - 1)).iv))) && (decide (((gt L (x - 1)).iv).lo=((mP t t' f).iv).lo))) && (!(jm out (((mP t t' f).iv).lo))))
 · exact ⟨true,rfl⟩
 · exact ⟨false,rfl⟩
theorem gap_any [K:Key] (heq:∀ a b,eqf a b=true→a=b) (hx:gt L x=mP t t' f) (ht:Tm t) (ht':Tm t') (hlt:tk t < tk t') (h:Vl out) :
 Vl (dT eqf same red L out x)∧(dT eqf same red L out x).length≤out.length+1∧0 < (dT eqf same red L out x).length∧(lst (dT eqf same red L out x)).iv.hi=t'∧(lst (dT eqf same red L out x)).iv.lo≠t'∧(lst (dT eqf same red L out x)).f=f:=by
 have hne:t≠t':=fun e=>by rw [e] at hlt; omega
 have hn:Vl (i4 L out x)∧(i4 L out x).length≤out.length+1∧0 < (i4 L out x).length∧(lst (i4 L out x)).iv.hi=t'∧(lst (i4 L out x)).iv.lo≠t'∧(lst (i4 L out x)).f=f:=by
  obtain ⟨b,e⟩:=yW (out:=out) hx
  rw [e,jx]
  exact ⟨h.app ⟨ht,ht'⟩ (Nat.le_of_lt hlt),by simp,by simp,rfl,hne,rfl⟩
 unfold dT
 rw [show aM (gt L x).iv=false by rw [hx]; exact decide_eq_false hne,Bool.not_false,cond_true,cond_true]
 cases hb:tD L out x with
 | false=>exact hn
 | true =>
  rw [cond_true]
  cases hq:((!((gt out (out.length - 1)).iv).openHi) && (eqf ((gt out (out.length - 1)).f) ((gt L x).f))) with
  | false=>exact hn
  | true =>
   obtain ⟨b1,b2,b3⟩:=jp.1 hb
   have hm:=h _ (fV b1)
   rw [Bool.and_eq_true] at hq
   have e:=heq _ _ hq.2
   rw [hx] at b2 e ⊢
   have b2:(lst out).iv.hi=t:=b2
   have hl:tk (lst out).iv.lo < tk t':=by rw [b2] at hm; omega
   rw [cond_true]
   show Vl (out.set (out.length - 1) ⟨⟨(lst out).iv.lo,t',(lst out).iv.openLo,true⟩,(lst out).f⟩)∧(out.set (out.length - 1) (⟨⟨(lst out).iv.lo,t',(lst out).iv.openLo,true⟩,(lst out).f⟩:U α)).length≤_∧0 < (out.set (out.length - 1) (⟨⟨(lst out).iv.lo,t',(lst out).iv.openLo,true⟩,(lst out).f⟩:U α)).length∧(lst (out.set (out.length - 1) ⟨⟨(lst out).iv.lo,t',(lst out).iv.openLo,true⟩,(lst out).f⟩)).iv.hi=t'∧(lst (out.set (out.length - 1) ⟨⟨(lst out).iv.lo,t',(lst out).iv.openLo,true⟩,(lst out).f⟩)).iv.lo≠t'∧(lst (out.set (out.length - 1) ⟨⟨(lst out).iv.lo,t',(lst out).iv.openLo,true⟩,(lst out).f⟩)).f=f
   rw [lst_set b1,List.length_set]
   exact ⟨h.set ⟨hm.1.1,ht'⟩ (Nat.le_of_lt hl),Nat.le_succ _,b1,rfl,fun e=>by
    have e:(lst out).iv.lo=t':=e
    rw [e] at hl; omega,e⟩
theorem len_le [K:Key] (heq:∀ a b,eqf a b=true→a=b) {n:List (U α)} (hw:∀ u∈n,Wv u.iv) (hr:∀ u∈n,∀ t,Tm t→same u.f u.f t=true) :
 ∀ (s p:List (U α)),n=p++s→(Vl (fL (dT eqf same red (n.flatMap atU)) [] (p.flatMap atU).length)∧(fL (dT eqf same red (n.flatMap atU)) [] (p.flatMap atU).length).length≤p.length)→(fL (dT eqf same red (n.flatMap atU)) [] (n.flatMap atU).length).length≤n.length
 | [],p,hn,hp=>by
  rw [List.append_nil] at hn
  rw [← hn] at hp
  exact hp.2
 | y::s,p,hn,hp=>by
  refine len_le heq hw hr s (p++[y]) (by rw [hn]; simp) ?_
  have hL:n.flatMap atU=p.flatMap atU++(atU y++s.flatMap atU):=by rw [hn]; simp
  have hy:y∈n:=by rw [hn]; simp
  have hwy:=hw y hy
  have hc:((p++[y]).flatMap atU).length=(p.flatMap atU).length+(atU y).length:=by simp
  rw [hc,List.length_append,List.length_singleton]
  generalize hcc:(p.flatMap atU).length=c at *
  generalize hLL:n.flatMap atU=L at *
  have hLl:L.length=c+((atU y).length+(s.flatMap atU).length):=by rw [hL,List.length_append,List.length_append,hcc]
  have hI:∀ k,fL (dT eqf same red L) [] (c+(k+1))=dT eqf same red L (fL (dT eqf same red L) [] (c+k)) (c+k):=fun _=>rfl
  have hgt:∀ k,k < (atU y).length→gt L (c+k)=gt (atU y) k:=fun k hk=>by
   rw [hL,← hcc]
   have:∀ (A B:List (U α)),gt (A++B) (A.length+k)=gt B k:=fun A B=>by simp [gt,List.getD,List.getElem?_append_right]
   rw [this,gc hk]
  by_cases hi:y.iv.lo=y.iv.hi
  · obtain ⟨o1,o2⟩:=hwy.2.2 (by rw [hi])
    have ea:atU y=[ptU y.iv.lo y.f]:=by
     unfold atU aM
     rw [o1,decide_eq_true hi]; rfl
    have hx0:gt L (c+0)=ptU y.iv.lo y.f:=by rw [hgt 0 (by rw [ea]; simp),ea]; rfl
    rw [ea]
    show Vl (fL _ [] (c+(0+1)))∧(fL _ [] (c+(0+1))).length≤_
    rw [hI 0]
    have:=pt_any (eqf:=eqf) (same:=same) (red:=red) hx0 hwy.1.1 hp.1
    exact ⟨this.1,Nat.le_trans this.2 (Nat.succ_le_succ hp.2)⟩
  · have hini:aM y.iv=false:=decide_eq_false hi
    have hlt:tk y.iv.lo < tk y.iv.hi:=by
     have:=hwy.2.1
     by_cases e:tk y.iv.lo=tk y.iv.hi
     · exact absurd ((hwy.1.1.inj hwy.1.2).1 e) hi
     · omega
    have hE:∀ (k:Nat),(Vl (fL (dT eqf same red L) [] (c+k))∧(fL (dT eqf same red L) [] (c+k)).length≤p.length)→gt L (c+k)=mP y.iv.lo y.iv.hi y.f→(y.iv.openHi=false→gt L (c+(k+1))=ptU y.iv.hi y.f) →
     (Vl (fL (dT eqf same red L) [] (c+(k+1+(bif y.iv.openHi then 0 else 1))))∧(fL (dT eqf same red L) [] (c+(k+1+(bif y.iv.openHi then 0 else 1)))).length≤p.length+1):=fun k h1 h2 h3=>by
     obtain ⟨g1,g2,g3,g4,g5,g6⟩:=gap_any (eqf:=eqf) (same:=same) (red:=red) heq h2 hwy.1.1 hwy.1.2 hlt h1.1
     rw [← hI k] at g1 g2 g3 g4 g5 g6
     cases ho:y.iv.openHi with
     | true=>exact ⟨g1,Nat.le_trans g2 (Nat.succ_le_succ h1.2)⟩
     | false =>
      show Vl (fL _ [] (c+(k+1+1)))∧(fL _ [] (c+(k+1+1))).length≤_
      rw [hI (k+1)]
      rw [xR (h3 ho) g3 g4 (by rw [g4]; exact g5) (by rw [g6]; exact hr y hy _ hwy.1.2)]
      have hm:=g1 _ (fV g3)
      exact ⟨g1.set hm.1 hm.2,by rw [List.length_set]; exact Nat.le_trans g2 (Nat.succ_le_succ h1.2)⟩
    cases hol:y.iv.openLo with
    | false =>
     have ea:atU y=ptU y.iv.lo y.f::mP y.iv.lo y.iv.hi y.f::(bif y.iv.openHi then [] else [ptU y.iv.hi y.f]):=by
      unfold atU; rw [hol,hini]; rfl
     have hl2:(atU y).length=1+1+(bif y.iv.openHi then 0 else 1):=by rw [ea]; cases y.iv.openHi <;> rfl
     have hx0:gt L (c+0)=ptU y.iv.lo y.f:=by rw [hgt 0 (by rw [hl2]; omega),ea]; rfl
     have hx1:gt L (c+1)=mP y.iv.lo y.iv.hi y.f:=by rw [hgt 1 (by rw [hl2]; omega),ea]; rfl
     rw [hl2]
     have st1:=pt_left (eqf:=eqf) (same:=same) (red:=red) (out:=fL (dT eqf same red L) [] c) hx0 hwy.1.1 hp.1 (by rw [hl2] at hLl; omega) (by show (gt L (c+1)).iv.lo=_; rw [hx1]; rfl) (by show same (gt L (c+1)).f _ _=true; rw [hx1]; exact hr y hy _ hwy.1.1)
     exact hE 1 ⟨st1.1,Nat.le_trans st1.2 hp.2⟩ hx1 (fun e=>by rw [hgt 2 (by rw [hl2,e]; decide),ea,e]; rfl)
    | true =>
     have ea:atU y=mP y.iv.lo y.iv.hi y.f::(bif y.iv.openHi then [] else [ptU y.iv.hi y.f]):=by
      unfold atU; rw [hol,hini]; rfl
     have hl2:(atU y).length=0+1+(bif y.iv.openHi then 0 else 1):=by rw [ea]; cases y.iv.openHi <;> rfl
     have hx0:gt L (c+0)=mP y.iv.lo y.iv.hi y.f:=by rw [hgt 0 (by rw [hl2]; omega),ea]; rfl
     rw [hl2]
     exact hE 0 hp hx0 (fun e=>by rw [hgt 1 (by rw [hl2,e]; decide),ea,e]; rfl)
end
end Go.Sx
namespace Go.Sx
section
variable [K:Key]
abbrev NFl (n:List (U Ln)):Prop:=NF cA bt aC n
abbrev Sml (n m:List (U Ln)):Prop:=Sem bt n m
structure Dk (D:Ln→Prop):Prop where
 ru:Ru D bt aC
 ok:∀ f,D f→LOk f
theorem Dk.rc {D:Ln→Prop} (h:Dk D) {t:GR} (ht:Tm t) {f g:Ln} (hf:D f) (hg:D g) (e:bt f g t=true):aC f t=aC g t :=
 nK (h.ok _ hf) (h.ok _ hg) ht.ok.tok ((fH (h.ok _ hf) (h.ok _ hg) ht.ok.tok).1 e)
theorem Dk.uniq {D:Ln→Prop} (h:Dk D) {n m:List (U Ln)} (hn:NFl n) (hm:NFl m) (dn:∀ v∈n,D v.f) (dm:∀ v∈m,D v.f) (hS:Sml n m):n=m :=
 yT h.ru (fun t ht f g hf hg e=>h.rc ht hf hg e) (fun a=>(jy a a).2 rfl) hn hm dn dm hS
structure NFL (D:Ln→Prop) (n N:List (U Ln)):Prop where
 nf:NFl N
 ok:∀ x∈N,D x.f
 sem:Sml n N
 len:N.length≤n.length
theorem Dk.normal {D:Ln→Prop} (h:Dk D) {n:List (U Ln)} (hW:∀ x∈n,Wv x.iv∧D x.f) (hD:n.Pairwise fun a b=>Dj a.iv b.iv):∃ N,aU n=(N,0)∧NFL D n N:=by
 obtain ⟨s1,s2⟩:=o6 (fun x hx=>(hW x hx).1.1)
 have hs:=oZ (fun x hx=>(hW x hx).1) hD s1 s2
 have hWs:∀ x∈af n,Wv x.iv∧D x.f:=fun x hx=>hW x (s1.mem_iff.1 hx)
 have e:=lM s1.length_eq fun i h0 h1=>(vY (fun x hx=>(hW x hx).1) s1 s2).2 hD i h0 (by rw [s1.length_eq]; exact h1)
 rw [lN,pk] at e
 have hsem:=sem_loop (eqf:=cA) (red:=aC) h.ru (fun a b=>(jy a b).1) hWs hs
 have hl:=len_le (eqf:=cA) (same:=bt) (red:=aC) (fun a b=>(jy a b).1) (fun x hx=>(hWs x hx).1) (fun x hx t ht=>h.ru.refl t ht _ (hWs x hx).2) _ [] rfl ⟨fun _ h=>(by cases h),Nat.le_refl 0⟩
 rw [s1.length_eq] at hl
 refine ⟨_,e,hsem.1,hsem.2.1,⟨fun t ht u hu hi=>?_,fun q u hu hi=>?_,fun t ht w hw hi=>?_,fun q w hw hi=>?_⟩,hl⟩
 · obtain ⟨w,a,b⟩:=hsem.2.2.s1 t ht u hu hi; exact ⟨w,s1.mem_iff.1 a,b⟩
 · obtain ⟨w,a,b⟩:=hsem.2.2.s2 q u hu hi; exact ⟨w,s1.mem_iff.1 a,b⟩
 · exact hsem.2.2.c1 t ht w (s1.mem_iff.2 hw) hi
 · exact hsem.2.2.c2 q w (s1.mem_iff.2 hw) hi
theorem Sml.app {n n' N N':List (U Ln)} (h:Sml n N) (h':Sml n' N'):Sml (n++n') (N++N'):=by
 refine ⟨fun t ht u hu hi=>?_,fun q u hu hi=>?_,fun t ht u hu hi=>?_,fun q u hu hi=>?_⟩
 all_goals rcases List.mem_append.1 hu with hu | hu
 · obtain ⟨w,a,b⟩:=h.s1 t ht u hu hi; exact ⟨w,List.mem_append_left _ a,b⟩
 · obtain ⟨w,a,b⟩:=h'.s1 t ht u hu hi; exact ⟨w,List.mem_append_right _ a,b⟩
 · obtain ⟨w,a,b⟩:=h.s2 q u hu hi; exact ⟨w,List.mem_append_left _ a,b⟩
 · obtain ⟨w,a,b⟩:=h'.s2 q u hu hi; exact ⟨w,List.mem_append_right _ a,b⟩
 · obtain ⟨w,a,b⟩:=h.c1 t ht u hu hi; exact ⟨w,List.mem_append_left _ a,b⟩
 · obtain ⟨w,a,b⟩:=h'.c1 t ht u hu hi; exact ⟨w,List.mem_append_right _ a,b⟩
 · obtain ⟨w,a,b⟩:=h.c2 q u hu hi; exact ⟨w,List.mem_append_left _ a,b⟩
 · obtain ⟨w,a,b⟩:=h'.c2 q u hu hi; exact ⟨w,List.mem_append_right _ a,b⟩
def Plc (q:Nat):Prop:=(∃ t,Tm t∧q=2*tk t)∨∃ k,q=2*k+1
theorem Sml.place {n N:List (U Ln)} (h:Sml n N) {u:U Ln} (hu:u∈N) {q:Nat} (hq:Plc q) (hi:inU u.iv q):∃ w∈n,inU w.iv q:=by
 rcases hq with ⟨t,ht,rfl⟩ | ⟨k,rfl⟩
 · obtain ⟨w,a,b,_⟩:=h.s1 t ht u hu hi; exact ⟨w,a,b⟩
 · obtain ⟨w,a,b,_⟩:=h.s2 k u hu hi; exact ⟨w,a,b⟩
theorem dj_plc {x y:Iv} (hx:Wv x) (hy:Wv y) (h:∀ q,Plc q→¬ (inU x q∧inU y q)):Dj x y:=by
 have a:=hx.le
 have b:=hy.le
 by_cases e:eW x≤eW y
 · left
   have:=h (eW y) (by rcases gL y with ⟨_,e⟩ | ⟨_,e⟩; exact .inl ⟨_,hy.1.1,e⟩; exact .inr ⟨_,e⟩)
   unfold inU at this
   omega
 · right
   have:=h (eW x) (by rcases gL x with ⟨_,e⟩ | ⟨_,e⟩; exact .inl ⟨_,hx.1.1,e⟩; exact .inr ⟨_,e⟩)
   unfold inU at this
   omega
theorem no_dj {x y:Iv} (h:Dj x y) (q:Nat):¬ (inU x q∧inU y q):=by
 unfold Dj at h; unfold inU
 omega
theorem NFl.dj {n:List (U Ln)} (h:NFl n):n.Pairwise fun a b=>Dj a.iv b.iv:=h.ord.imp fun h=>.inl h
theorem Dk.self {D:Ln→Prop} (h:Dk D) {n:List (U Ln)} (hn:NFl n) (dn:∀ v∈n,D v.f):aU n=(n,0):=by
 obtain ⟨N,e,k⟩:=h.normal (fun x hx=>⟨hn.wv x hx,dn x hx⟩) hn.dj
 rw [e,h.uniq k.nf hn k.ok dn (k.sem.symm h.ru dn k.ok)]
end
end Go.Sx
namespace Go.Sx
open Go Go.RowKit Go.Proofs
instance yM3_17:Bu Tryz.prog 92 [] [] (.agg #[]):=Bu.of bld55 rfl rfl
instance yM3_18:Ie Tryz.prog 92:=⟨fun hx=>yD uu92 rfl hx⟩
end Go.Sx
namespace Go.Sx
open Go Go.RowKit Go.Proofs Go.Sort Go.Lib
section
variable {P:Program} {α β:Type} [Inhabited α] [Cod β]
theorem qH (val:α→β) (d:Array α):(flatK (fun x=>Cod.enc (val x)) (Cod.n β) d).toList=flat (d.toList.map val):=by
 apply List.ext_getElem?
 intro t
 by_cases ht:t < d.size*Cod.n β
 · have hn:0 < Cod.n β:=Cod.pos
   have hi:t / Cod.n β < d.size:=Nat.div_lt_of_lt_mul (by rw [Nat.mul_comm]; exact ht)
   have hm:t % Cod.n β < Cod.n β:=Nat.mod_lt _ hn
   have e1:(d.toList.map val)[t / Cod.n β]?=some (val d[t / Cod.n β]!):=by
    rw [List.getElem?_map,Array.getElem?_toList,Array.getElem?_eq_getElem hi,Option.map_some,getElem!_pos d _ hi]
   have e2:=rH e1 hm
   rw [show t / Cod.n β*Cod.n β+t % Cod.n β=t by rw [Nat.mul_comm]; exact Nat.div_add_mod t _] at e2
   have hs:t < (flatK (fun x=>Cod.enc (val x)) (Cod.n β) d).size:=by rw [size_flatK]; exact ht
   have hl:t % Cod.n β < (Cod.enc (val d[t / Cod.n β]!)).length:=by rw [Cod.len]; exact hm
   rw [e2,Array.getElem?_toList,Array.getElem?_eq_getElem hs,← getElem!_pos _ t hs,get_flatK _ _ _ _ ht,List.getElem?_eq_getElem hl]
   exact congrArg some (getElem!_pos (Cod.enc (val d[t / Cod.n β]!)) (t % Cod.n β) hl)
 · rw [List.getElem?_eq_none (by rw [Array.length_toList,size_flatK]; omega),List.getElem?_eq_none (by rw [cj,List.length_map,Array.length_toList]; omega)]
theorem xO (enc:α→List Value) (k:Nat) (w:World) (blk n:Nat) (d:Array α) (os:Array Obj) :
 (∀ j,j < w.heap.size→j≠blk→(sortWorldK enc k w blk 0 n d os).heap[j]?=w.heap[j]?) ∧
 (∀ cur e fr,w.heap[blk]?=some (.cells cur e fr)→(sortWorldK enc k w blk 0 n d os).heap[blk]?=some (.cells (putCells id 0 (flatK enc k d) cur) e fr)) ∧
 w.heap.size≤(sortWorldK enc k w blk 0 n d os).heap.size:=by
 have hh:(sortWorldK enc k w blk 0 n d os).heap=(w.heap.modify blk (onCells (putCells id 0 (flatK enc k d))))++os:=rfl
 have hz:(w.heap.modify blk (onCells (putCells id 0 (flatK enc k d)))).size=w.heap.size:=by simp
 refine ⟨fun j hj hne=>?_,fun cur e fr hc=>?_,?_⟩
 · rw [hh,Array.getElem?_append_left (by rw [hz]; exact hj),Array.getElem?_modify,if_neg (fun e=>hne e.symm)]
 · have hlt:blk < w.heap.size:=(Array.getElem?_eq_some_iff.1 hc).1
   rw [hh,Array.getElem?_append_left (by rw [hz]; exact hlt),Array.getElem?_modify,if_pos rfl,hc]; rfl
 · rw [hh,Array.size_append,hz]; omega
theorem put_take (F cur:Array Value) (h:F.size≤cur.size):(putCells id 0 F cur).toList.take F.size=F.toList:=by
 apply List.ext_getElem?
 intro t
 by_cases ht:t < F.size
 · rw [List.getElem?_take_of_lt ht,Array.getElem?_toList,Array.getElem?_toList]
   unfold putCells
   rw [Array.getElem?_mapIdx,Array.getElem?_eq_getElem (by omega:t < cur.size),Option.map_some,if_pos ⟨Nat.zero_le _,by omega⟩,Array.getElem?_eq_getElem ht,Nat.sub_zero]
   show some F[t]! = _
   rw [getElem!_pos F t ht]
 · rw [List.getElem?_eq_none (by rw [List.length_take]; omega),List.getElem?_eq_none (by rw [Array.length_toList]; omega)]
theorem sort_own {val:α→β} {e:TypeId} {sv:Value} {d D':Array α} {F:FuncId} {more:List Value} {w0 w:World} {B:Asn} {p:Prop} (hd0:0 < d.size) (hD:D'.size=d.size) (hp:p)
 (hbel:Below w0.heap.size w0 w) (hsep:∃ U,Sep w0.heap.size w [Asn.row (α:=β) e sv (d.toList.map val),B] U)
 (hC:∀ blk cap,sv=.slice (some ⟨blk,0,none⟩) d.size cap→HoldsK (fun x=>Cod.enc (val x)) (Cod.n β) w blk 0 d→blk < w.heap.size→w0.heap.size≤blk →
   Calls P F (sv::more).toArray w fun r w'=>r=.returned (.tuple #[])∧∃ n os,w'=sortWorldK (fun x=>Cod.enc (val x)) (Cod.n β) w blk 0 n D' os) :
 Calls P F (sv::more).toArray w (RetY w0 (fun v=>v=.tuple #[]∧p) (fun _=>[Asn.row (α:=β) e sv (D'.toList.map val),B])):=by
 obtain ⟨U,f,V,hU,hdis,hlt,⟨hown,hf⟩,hB⟩:=hsep
 have hl1:(d.toList.map val).length=d.size:=by rw [List.length_map,Array.length_toList]
 have hl2:(D'.toList.map val).length=d.size:=by rw [List.length_map,Array.length_toList,hD]
 rcases hown.2 with ⟨_,h0⟩ | ⟨blk,cap,cur,hv,_,hg,hcap,hmx,hcs,htk⟩
 · omega
 rw [hl1] at hv hcap htk
 have hfb:f blk:=(hf blk).2 (by rw [hv]; rfl)
 obtain ⟨hlo,hhi⟩:=hlt blk hfb
 have hcur:d.size*Cod.n β≤cur.size:=by rw [hcs]; exact Nat.mul_le_mul_right _ hcap
 have hH:HoldsK (fun x=>Cod.enc (val x)) (Cod.n β) w blk 0 d:=by
  intro j hj
  have hj':j < d.size*Cod.n β:=by rw [← size_flatK (fun x=>Cod.enc (val x)) (Cod.n β) d]; exact hj
  refine ⟨?_,?_⟩
  · have h1:cur[j]?=some (flatK (fun x=>Cod.enc (val x)) (Cod.n β) d)[j]!:=by
     have h2:(cur.toList.take (d.size*Cod.n β))[j]?=(flat (d.toList.map val))[j]?:=by rw [htk]
     rw [List.getElem?_take_of_lt hj',Array.getElem?_toList,← qH,Array.getElem?_toList,Array.getElem?_eq_getElem hj] at h2
     rw [h2,getElem!_pos _ j hj]
    unfold World.cell?
    rw [hg,Nat.zero_add]
    exact h1
  · unfold World.frozen?
    rw [hg]
    simp
 refine (hC blk cap hv hH hhi hlo).mono fun r w' ⟨hr,n,os,hw⟩=>?_
 subst hw
 obtain ⟨g1,g2,g3⟩:=xO (fun x=>Cod.enc (val x)) (Cod.n β) w blk n D' os
 refine ⟨.tuple #[],hr,⟨rfl,hp⟩,⟨hbel.os,hbel.tape,hbel.output,Nat.le_trans hbel.size g3,fun k hk=>?_,Nat.le_trans hbel.drawn (Nat.le_add_right _ _)⟩,U,f,V,hU,hdis,fun k hk=>⟨(hlt k hk).1,Nat.lt_of_lt_of_le (hlt k hk).2 g3⟩,⟨⟨cj _,.inr ⟨blk,cap,_,?_,Nat.zero_le _,g2 cur e (0,0) hg,?_,hmx,?_,?_⟩⟩,hf⟩,hB.keep g3 fun k hk=>?_⟩
 · rw [g1 k (Nat.lt_of_lt_of_le hk hbel.size) (by omega)]
   exact hbel.block k hk
 · rw [hl2]; exact hv
 · rw [hl2]; exact hcap
 · unfold putCells; rw [Array.size_mapIdx]; exact hcs
 · have hF:(flatK (fun x=>Cod.enc (val x)) (Cod.n β) D').size=d.size*Cod.n β:=by rw [size_flatK,hD]
   rw [hl2,← hF,put_take _ _ (by rw [hF]; exact hcur),qH]
 · exact g1 k ((hB.range k hk).2) fun ek=>hdis blk hfb (ek ▸ hk)
theorem lays_of {val:α→β} {g:Nat} {cf:α→α→Int} {blk size:Nat} {w:World} {p:α→α→Prop}
 (ct:∀ x y w,Calls P g #[.agg (Cod.enc (val x)).toArray,.agg (Cod.enc (val y)).toArray] w (dE w (.int .i64 (cf x y)) (p x y))):CmpLays P g #[] (fun x=>Cod.enc (val x)) (Cod.n β) cf blk 0 size w:=by
 intro m os dk _ x y
 refine (ct x y (sortWorldK (fun x=>Cod.enc (val x)) (Cod.n β) w blk 0 m dk os)).mono fun r w' ⟨hr,_,hb⟩=>⟨hr,?_⟩
 generalize sortWorldK (fun x=>Cod.enc (val x)) (Cod.n β) w blk 0 m dk os=W at *
 refine ⟨w'.drawn - W.drawn,w'.heap.extract W.heap.size w'.heap.size,?_⟩
 have hheap:w'.heap=W.heap++w'.heap.extract W.heap.size w'.heap.size:=by
  apply Array.ext_getElem?
  intro k
  by_cases hk:k < W.heap.size
  · rw [Array.getElem?_append_left hk,hb.block k hk]
  · rw [Array.getElem?_append_right (by omega),Array.getElem?_extract]
    by_cases hk2:k < w'.heap.size
    · rw [if_pos (by have:=hb.size; omega),show W.heap.size+(k - W.heap.size)=k by omega]
    · rw [if_neg (by omega),Array.getElem?_eq_none (by omega)]
 have hd:w'.drawn=W.drawn+(w'.drawn - W.drawn):=by have:=hb.drawn; omega
 have hR:grow (W.drewN (w'.drawn - W.drawn)) (w'.heap.extract W.heap.size w'.heap.size)=(⟨W.heap++w'.heap.extract W.heap.size w'.heap.size,W.tape,W.drawn+(w'.drawn - W.drawn),W.os,W.output⟩:World):=rfl
 rw [hR,← hheap,← hd,← hb.os,← hb.tape,← hb.output]
end
end Go.Sx
