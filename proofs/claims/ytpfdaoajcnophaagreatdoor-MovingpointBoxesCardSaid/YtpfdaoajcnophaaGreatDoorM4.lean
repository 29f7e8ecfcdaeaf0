/- A part of the proof of movingpointBoxes. -/
import Derived.Test.YtpfdaoajcnophaaGreatDoorM3
import Derived.RangeFuncRecord
import Derived.Test.YtpfdaoajcnophaaGreatDoorM1
set_option linter.unusedVariables false
set_option linter.unusedSimpArgs false
open Go.Proofs.Tryz renaming runUnderlying39 → uu39, runUnderlying145 → uu145, runUnderlying165 → uu165, runUnderlying49 → uu49, zeroValue39 → vv39, zeroValue145 → vv145, zeroValue165 → vv165, zeroValue49 → vv49
namespace Go.Sx
open Go Go.RowKit
def qc:List Nat→Bool
 | []=>true
 | x::l=>(l.all fun y=>!(Nat.beq x y)) && qc l
theorem ve {e:Nat} {acc:List Nat} (h:qc (e::acc)=true):e ∉ acc∧qc acc=true:=by
 simp only [qc,Bool.and_eq_true,List.all_eq_true,Bool.not_eq_true'] at h
 exact ⟨fun hm=>by have:=h.1 e hm; simp at this,h.2⟩
def uk (acc:List Nat) (L:List Asn):List Asn:=acc.foldl (fun L e=>L.set e .emp) L
theorem pB:∀ (acc:List Nat) (L:List Asn) (j:Nat),(uk acc L)[j]?=if j∈acc∧j < L.length then some .emp else L[j]?
 | [],L,j=>by simp [uk]
 | e::acc,L,j=>by
  show (uk acc (L.set e .emp))[j]?=_
  rw [pB acc]
  by_cases hj:j < L.length
  · by_cases h1:j∈acc
    · simp [h1,hj]
    · by_cases h2:e=j
      · subst h2; simp [h1,hj]
      · simp [h1,h2,Ne.symm h2,hj]
  · simp [hj]
theorem sep_addE {lo:Nat} {w:World} {L:List Asn} {U:Fp} (h:Sep lo w L U):Sep lo w (.emp::L) U :=
 ⟨fun _=>False,U,fun k=>by simp,fun _ h=>h.elim,fun _ h=>h.elim,fun _=>id,h⟩
theorem ye {lo:Nat} {w:World} {L:List Asn} {U:Fp} (h:Sep lo w (.emp::L) U):Sep lo w L U:=by
 obtain ⟨f,V,hU,_,_,hr,hs⟩:=h
 exact hs.congr fun k=>by
  rw [hU k]
  exact ⟨.inr,fun h=>h.resolve_left (hr k)⟩
theorem va {acc:List Nat} {e:Nat} {r:Asn} {L:List Asn} (h:e ∉ acc):(acc.filterMap fun j=>(L.set e r)[j]?)=acc.filterMap fun j=>L[j]? :=
 Sx.List.filterMap_congr_mem fun j hj=>by
  show (L.set e r)[j]?=L[j]?
  exact List.getElem?_set_ne (fun h2:e=j=>h (by rw [h2]; exact hj))
theorem yd {lo:Nat} {w:World}:∀ {acc:List Nat} {L:List Asn} {U:Fp},qc acc=true→(∀ i∈acc,i < L.length)→Sep lo w L U→Sep lo w ((acc.filterMap fun e=>L[e]?)++uk acc L) U
 | [],_,_,_,_,h=>h
 | e::acc,L,U,hn,hl,h=>by
  obtain ⟨hne,hn2⟩:=ve hn
  have he:e < L.length:=hl e (by simp)
  have e1:L[e]?=some (L[e]'he):=List.getElem?_eq_getElem _
  obtain ⟨B,h1,h2⟩:=eU Asn.emp e1
  obtain ⟨f,V,hU,hd,hlt,hr,hs⟩:=Sep.perm h1 h
  have h3:=yd (acc:=acc) hn2 (fun i hi=>by simpa using hl i (by simp [hi])) (Sep.perm h2 (sep_addE hs))
  rw [va hne] at h3
  rw [List.filterMap_cons,e1]
  exact ⟨f,V,hU,hd,hlt,hr,h3⟩
theorem sep_in {lo:Nat} {w:World}:∀ {acc:List Nat} {L:List Asn} {U:Fp},qc acc=true→(∀ i∈acc,i < L.length)→Sep lo w ((acc.filterMap fun e=>L[e]?)++uk acc L) U→Sep lo w L U
 | [],_,_,_,_,h=>h
 | e::acc,L,U,hn,hl,h=>by
  obtain ⟨hne,hn2⟩:=ve hn
  have he:e < L.length:=hl e (by simp)
  have e1:L[e]?=some (L[e]'he):=List.getElem?_eq_getElem _
  obtain ⟨B,h1,h2⟩:=eU Asn.emp e1
  rw [List.filterMap_cons,e1] at h
  obtain ⟨f,V,hU,hd,hlt,hr,hs⟩:=h
  have h3:=sep_in (acc:=acc) (L:=L.set e .emp) hn2 (fun i hi=>by simpa using hl i (by simp [hi])) (by rw [va hne]; exact hs)
  exact Sep.perm h1.symm ⟨f,V,hU,hd,hlt,hr,ye (Sep.perm h2.symm h3)⟩
theorem touch2 {lo:Nat} {w:World} {L:List Asn} {acc:List Nat} (hacc:qc acc=true) (hl:∀ i∈acc,i < L.length) {U:Fp} (h:Sep lo w L U) :
 ∃ V W:Fp,Sep lo w (acc.filterMap fun e=>L[e]?) V∧(∀ k,V k→lo≤k∧k < w.heap.size)∧(∀ k,W k→lo≤k∧k < w.heap.size)∧(∀ k,V k→¬ W k) ∧
  ∀ (w':World) (L':List Asn) (V':Fp),L'.length=L.length→(∀ j,j ∉ acc→L'[j]?=L[j]?)→(∀ k,W k→w'.heap[k]?=w.heap[k]?)→(∀ k,V' k→¬ W k) →
   Sep lo w' (acc.filterMap fun e=>L'[e]?) V'→∃ U',Sep lo w' L' U':=by
 obtain ⟨V,W,hA,hB,hVW,_⟩:=(yd hacc hl h).split
 refine ⟨V,W,hA,hA.range,hB.range,hVW,fun w' L' V' hlen hL' hk hd hs=>?_⟩
 have e1:uk acc L'=uk acc L:=List.ext_getElem? fun j=>by
  rw [pB,pB,hlen]
  by_cases hj:j∈acc
  · by_cases h2:j < L.length
    · simp [hj,h2]
    · rw [if_neg (fun h=>h2 h.2),if_neg (fun h=>h2 h.2),List.getElem?_eq_none (by omega),List.getElem?_eq_none (by omega)]
  · rw [if_neg (fun h=>hj h.1),if_neg (fun h=>hj h.1),hL' j hj]
 refine ⟨fun k=>V' k∨W k,sep_in (acc:=acc) hacc (fun i hi=>by rw [hlen]; exact hl i hi) ?_⟩
 rw [e1]
 exact hs.append (hB.moved hk) hd
section
variable {P:Program} {w0:World} {N:Nat} {F:List (Nat×Value)} {ops:List Oper} {D:List DOp} {H:List Hist} {Q:Exit→Act→World→Prop}
def ObS2 (P:Program) (w0:World) (ops:List Oper) (H:List Hist) (F:(Nat→Value)→List (Nat×Value)) (ξ:Nat→Value) (i:Nat) (o:Oper) (d:DOp):Prop :=
 ObS P w0 ops H F ξ i o d∨∃ j want,o.guard=some (j,want)∧look (F ξ) (((ops[j]?).bind (·.dst)).getD 0)=some (.bool want)∧((ops[j]?).bind (·.dst)).isSome=true ∧
  ObS P w0 ops H F ξ i { o with guard:=none } d
def Obl2 (P:Program) (w0:World) (ops:List Oper) (D:List DOp) (H:List Hist):List Oper→List DOp→Nat→((Nat→Value)→List (Nat×Value))→Prop
 | o::os,d::ds,i,F=>(∀ ξ,(∀ j,((clo ops []).getD i 0).testBit j=true→jv D ξ j)→ObS2 P w0 ops H F ξ i o d) ∧
  Obl2 P w0 ops D H os ds (i+1) (fun ξ=>match o.dst with | some t=>(t,d.ov.val ξ i)::F ξ | none=>F ξ)
 | _,_,_,_=>True
theorem vd:∀ (os:List Oper) (ds:List DOp) (k:Nat) (F':(Nat→Value)→List (Nat×Value)),os=ops.drop k→ds=D.drop k→Obl2 P w0 ops D H os ds k F' →
 (∀ ξ t,look (F' ξ) t=jl (dd ops D) F (fun j=>Nat.blt j k) ξ t) →
 ∀ i o d,k≤i→ops[i]?=some o→D[i]?=some d→∃ Fi:(Nat→Value)→List (Nat×Value),(∀ ξ t,look (Fi ξ) t=jl (dd ops D) F (fun j=>Nat.blt j i) ξ t)∧∀ ξ,(∀ j,((clo ops []).getD i 0).testBit j=true→jv D ξ j)→ObS2 P w0 ops H Fi ξ i o d
 | [],ds,k,F',hos,hds,_,_,i,o,d,hk,ho,hd=>by
  have:(ops.drop k)[i - k]?=some o:=by rw [List.getElem?_drop,show k+(i - k)=i by omega]; exact ho
  rw [← hos] at this
  simp at this
 | o'::os,[],k,F',hos,hds,_,_,i,o,d,hk,ho,hd=>by
  have:(D.drop k)[i - k]?=some d:=by rw [List.getElem?_drop,show k+(i - k)=i by omega]; exact hd
  rw [← hds] at this
  simp at this
 | o'::os,d'::ds,k,F',hos,hds,hob,hF,i,o,d,hk,ho,hd=>by
  have ho':ops[k]?=some o':=by
   have:(ops.drop k)[0]?=some o':=by rw [← hos]; rfl
   simpa [List.getElem?_drop] using this
  have hd':D[k]?=some d':=by
   have:(D.drop k)[0]?=some d':=by rw [← hds]; rfl
   simpa [List.getElem?_drop] using this
  have hos2:os=ops.drop (k+1):=by
   rw [← List.tail_drop,← hos]; rfl
  have hds2:ds=D.drop (k+1):=by
   rw [← List.tail_drop,← hds]; rfl
  obtain ⟨h1,h2⟩:=hob
  rcases Nat.lt_or_ge k i with hlt | hge
  · refine vd os ds (k+1) _ hos2 hds2 h2 ?_ i o d hlt ho hd
    · intro ξ t
      have hdd:=tf ho' hd'
      by_cases hdst:o'.dst=some t
      · rw [hdst] at hdd
        rw [kN (ov:=d'.ov) hdd (by simp [en]) (fun j hj ov' hov=>by simp [en]; omega)]
        simp [hdst,look]
      · rw [← na (i:=k) (S:=fun j=>Nat.blt j k) (fun ov e=>by rw [hdd] at e; simp at e; exact hdst e.1) (fun j hj=>by
         simp only [en,decide_eq_decide]
         omega),← hF ξ t]
        cases hod:o'.dst with
        | none=>rfl
        | some u =>
         have:Nat.beq u t=false:=by
          cases hb:Nat.beq u t with
          | false=>rfl
          | true=>exact absurd (by rw [hod,Nat.eq_of_beq_eq_true hb]) hdst
         simp [look,this]
  · have:i=k:=by omega
    subst this
    rw [ho] at ho'; rw [hd] at hd'
    simp only [Option.some.injEq] at ho' hd'
    subst ho' hd'
    exact ⟨F',hF,h1⟩
theorem Inv.step2 (hc:chk ops D H=true) (haccs:∀ d∈D,qc d.acc=true) (hN:∀ o∈ops,∀ t,o.dst=some t→t < N) (hob:Obl2 P w0 ops D H ops D 0 (fun _=>F)) {l:Array Bool} {ξ:Nat→Value} {a:Act} {w:World} (hI:Inv w0 N F ops D H l ξ a w)
 {i:Nat} {o:Oper} {d:DOp} (ho:ops[i]?=some o) (hd:D[i]?=some d) (hi:done l i=false) (hpre:∀ j,Bef ops j i→done l j=true) {K:Act→World→Prop} (k:∀ ξ' a' w',Inv w0 N F ops D H (l.setIfInBounds i true) ξ' a' w'→K a' w') :
 if Region.wanted o (yielded ops.toArray a.tmps) then Oper.wpY P o a w K Q else K (a.put o.dst undef) w:=by
 have hC:=rP ops [] [] rfl rfl (fun i j h=>by simp at h)
 have hck:=nQ hc ho hd
 simp only [qi,Bool.and_eq_true,List.all_eq_true,Bool.or_eq_true,Bool.not_eq_true'] at hck
 obtain ⟨⟨⟨⟨⟨_,hacc⟩,hreads⟩,hdst⟩,hdep⟩,hhist⟩:=hck
 have hlt:i < l.size:=by
  rw [hI.len]
  exact (List.getElem?_eq_some_iff.1 ho).1
 obtain ⟨Fi,hFi,hOb⟩:=vd (F:=F) ops D 0 (fun _=>F) rfl rfl hob (fun ξ t=>by rw [jq]; intro j; simp [en]) i o d (Nat.zero_le _) ho hd
 have hOb:=hOb ξ fun j hj=>by
  have hj':=hI.val j (hpre j (hC i j (by simpa using hj)))
  unfold jv
  split
  · rename_i φ acc hD
    exact hj' _ hD
  · trivial
 have hread:∀ t∈jP ops o,jl (dd ops D) F (done l) ξ t=look (Fi ξ) t:=by
  intro t ht
  rw [hFi]
  refine g8 (fun p hp hpt=>?_) fun _ _ _ _=>rfl
  obtain ⟨⟨dt,ov⟩,j⟩:=p
  simp only at hpt
  subst hpt
  have hj:=cH.1 hp
  simp only [dd,List.getElem?_map,Option.map_eq_some_iff,Prod.mk.injEq] at hj
  obtain ⟨⟨oj,dj⟩,hz,hdt,_⟩:=hj
  have hoj:=(List.getElem?_zip_eq_some.1 hz).1
  have:=hreads t ht (oj,j) (cH.2 hoj)
  simp only at hdt
  rcases this with h | h
  · simp [hdt] at h
  · exact side h hi hI.down hpre
 have hregs:∀ t∈jP ops o,∀ v,look (Fi ξ) t=some v→a.tmps[t]?=some v:=fun t ht v hv=>hI.regs t v (by rw [hread t ht]; exact hv)
 have hagr:Agr (gm (Fi ξ) (e6 o.op)) a:=by
  intro x v hx
  cases x with
  | tmp t =>
   obtain ⟨h1,h2⟩:=ly hx
   simp [Act.eval,hregs t (by simp [jP,h1]) v h2]
  | const u=>simp [ev] at hx; exact hx
  | global g=>simp [ev] at hx; exact hx
  | func f=>simp [ev] at hx; exact hx
 have hent:∀ e∈d.acc,∀ h,H[e]?=some h→h.at (done l) ξ=h.at (fun j=>Nat.blt j i) ξ:=by
  intro e he h hh
  have:=hacc e he
  rw [hh] at this
  simp only [List.all_eq_true] at this
  exact Hist.at_congr (fun p hp=>side (this p hp) hi hI.down hpre) fun _ _ _=>rfl
 have hal:∀ e∈d.acc,e < H.length:=by
  intro e he
  have:=hacc e he
  rcases Nat.lt_or_ge e H.length with h | h
  · exact h
  · rw [List.getElem?_eq_none h] at this; simp at this
 have hpicked:(d.acc.filterMap fun e=>(H.map fun h=>h.at (done l) ξ)[e]?)=d.acc.filterMap fun e=>(H[e]?).map fun h=>h.at (fun j=>Nat.blt j i) ξ:=by
  refine Sx.List.filterMap_congr_mem fun e he=>?_
  rw [List.getElem?_map]
  cases hh:H[e]? with
  | none=>rfl
  | some h=>simp [hent e he h hh]
 have hnd:∀ ξ',(∀ j,j≠i→ξ' j=ξ j)→d.ov.holds ξ' i→(∀ j,done (l.setIfInBounds i true) j=true→um D ξ' j):=by
  intro ξ' he hv j hj d' hd'
  by_cases e:j=i
  · subst e; rw [hd] at hd'; simp only [Option.some.injEq] at hd'; subst hd'; exact hv
  · have hjl:done l j=true:=by
     rw [gw hlt] at hj
     have:Nat.beq j i=false:=by
      cases hb:Nat.beq j i with
      | false=>rfl
      | true=>exact absurd (Nat.eq_of_beq_eq_true hb) e
     simpa [this] using hj
    have:=hI.val j hjl d' hd'
    cases hov:d'.ov with
    | det v=>simp only [hov,OV.holds] at this ⊢; rw [he j e]; exact this
    | nd φ =>
     simp only [hov,OV.holds] at this ⊢
     rw [φ.ok ξ' ξ]
     · exact this
     · intro k hk
       refine he k fun ek=>?_
       have hjo:∃ oj,ops[j]?=some oj:=⟨_,List.getElem?_eq_getElem (by
        rw [← hI.len]
        rcases Nat.lt_or_ge j l.size with h | h
        · exact h
        · simp [done,Array.getElem?_eq_none h] at hjl)⟩
       obtain ⟨oj,hoj⟩:=hjo
       have hckj:=nQ hc hoj hd'
       simp only [qi,Bool.and_eq_true,List.all_eq_true,Bool.or_eq_true,Bool.not_eq_true'] at hckj
       have hdj:=hckj.1.2 k (by rw [hov]; exact hk)
       rcases hdj with h | h
       · exact e ((Nat.eq_of_beq_eq_true h).symm.trans ek)
       · have:=hI.down j k (hC j k (by simpa using h)) hjl
         rw [ek,hi] at this; cases this
 have hdown':∀ i' j,Bef ops j i'→done (l.setIfInBounds i true) i'=true→done (l.setIfInBounds i true) j=true:=by
  intro i' j hb hi'
  rw [gw hlt] at hi' ⊢
  cases hbq:Nat.beq j i with
  | true=>rfl
  | false =>
   simp only [cond_false]
   cases hbi:Nat.beq i' i with
   | true =>
    have:=Nat.eq_of_beq_eq_true hbi
    subst this
    exact hpre j hb
   | false =>
    rw [hbi] at hi'
    exact hI.down i' j hb (by simpa using hi')
 have hreg':∀ (ξ':Nat→Value) (v:Value),(∀ j,j≠i→ξ' j=ξ j)→d.ov.val ξ' i=v→∀ t u,jl (dd ops D) F (done (l.setIfInBounds i true)) ξ' t=some u→(a.put o.dst v).tmps[t]?=some u:=by
  intro ξ' v he hv t u hu
  have hdd:=tf ho hd
  have hvals:∀ p∈(dd ops D).zipIdx,p.2≠i→p.1.2.val ξ' p.2=p.1.2.val ξ p.2:=by
   intro p _ hne
   cases p.1.2 with
   | det v=>rfl
   | nd φ=>exact he _ hne
  by_cases hdt:o.dst=some t
  · rw [hdt] at hdd
    rw [kN (ov:=d.ov) hdd (by rw [gw hlt]; simp) (fun j hj ov' hov=>by
     rw [gw hlt]
     have hne:Nat.beq j i=false:=by
      cases hb:Nat.beq j i with
      | false=>rfl
      | true=>have:=Nat.eq_of_beq_eq_true hb; omega
     simp only [hne,cond_false]
     simp only [dd,List.getElem?_map,Option.map_eq_some_iff,Prod.mk.injEq] at hov
     obtain ⟨⟨oj,dj⟩,hz,hdt',_⟩:=hov
     have hoj:=(List.getElem?_zip_eq_some.1 hz).1
     rw [hdt] at hdst
     simp only [List.all_eq_true,Bool.or_eq_true,Bool.not_eq_true'] at hdst
     have:=hdst (oj,j) (cH.2 hoj)
     rcases this with h | h
     · simp at h; exact absurd hdt' h
     · rw [side h hi hI.down hpre,en]; simp; omega)] at hu
    simp only [Option.some.injEq] at hu
    have htl:t < a.tmps.size:=by rw [hI.size]; exact hN o (List.mem_of_getElem? ho) t hdt
    simp [Act.put,hdt,htl,← hu,hv]
  · have hold:jl (dd ops D) F (done l) ξ t=some u:=by
     rw [← hu]
     refine g8 (fun p hp hpt=>?_) fun p hp hpt hdone=>(hvals p hp fun e=>?_).symm
     · rw [gw hlt]
       have:Nat.beq p.2 i=false:=by
        cases hb:Nat.beq p.2 i with
        | false=>rfl
        | true =>
         have e:=Nat.eq_of_beq_eq_true hb
         have:=cH.1 hp
         rw [e,hdd] at this
         simp only [Option.some.injEq] at this
         rw [← this] at hpt
         exact absurd hpt hdt
       simp [this]
     · rw [e,hi] at hdone; cases hdone
    have:=hI.regs t u hold
    cases hod:o.dst with
    | none=>exact this
    | some t' =>
     have hne:t'≠t:=fun e=>hdt (by rw [hod,e])
     simp [Act.put,hne,this]
 have hsteps:∀ (e:Nat) (h:Hist),H[e]?=some h→∀ p∈h.steps,done l p.1=true→i ∉ p.2.dep:=by
  intro e h hh p hp hdone hdepi
  obtain ⟨oj,hoj⟩:∃ oj,ops[p.1]?=some oj:=⟨_,List.getElem?_eq_getElem (by
   rw [← hI.len]
   rcases Nat.lt_or_ge p.1 l.size with h | h
   · exact h
   · simp [done,Array.getElem?_eq_none h] at hdone)⟩
  have hlenD:ops.length=D.length:=by
   simp only [chk,Bool.and_eq_true] at hc
   exact Nat.eq_of_beq_eq_true hc.1.1
  obtain ⟨dj,hdj⟩:∃ dj,D[p.1]?=some dj:=⟨_,List.getElem?_eq_getElem (by rw [← hlenD]; exact (List.getElem?_eq_some_iff.1 hoj).1)⟩
  have hckj:=nQ hc hoj hdj
  simp only [qi,Bool.and_eq_true,List.all_eq_true,Bool.or_eq_true,Bool.not_eq_true'] at hckj
  have:=hckj.2 (h,e) (cH.2 hh) p hp
  rcases this with h1 | ⟨_,h1⟩
  · simp at h1
  · rcases h1 i hdepi with h2 | h2
    · rw [← Nat.eq_of_beq_eq_true h2,hi] at hdone; cases hdone
    · have:=hI.down p.1 i (hC p.1 i (by simpa using h2)) hdone
      rw [hi] at this; cases this
 have hkeep:∀ (ξ':Nat→Value),(∀ j,j≠i→ξ' j=ξ j)→∀ (e:Nat) (h:Hist),H[e]?=some h→(∀ p∈h.steps,p.1≠i)→h.at (done (l.setIfInBounds i true)) ξ'=h.at (done l) ξ:=by
  intro ξ' he e h hh hne
  have hS:∀ p∈h.steps,done (l.setIfInBounds i true) p.1=done l p.1:=by
   intro p hp
   rw [gw hlt]
   have:Nat.beq p.1 i=false:=by
    cases hb:Nat.beq p.1 i with
    | false=>rfl
    | true=>exact absurd (Nat.eq_of_beq_eq_true hb) (hne p hp)
   simp [this]
  refine Hist.at_congr hS fun p hp hdone=>?_
  rw [hS p hp] at hdone
  exact p.2.ok _ _ fun k hk=>he k fun ek=>hsteps e h hh p hp hdone (ek ▸ hk)
 have hmiss:∀ (e:Nat) (h:Hist),H[e]?=some h→e ∉ d.acc→∀ p∈h.steps,p.1≠i:=by
  intro e h hh hne p hp ei
  rcases hhist (h,e) (cH.2 hh) p hp with h1 | ⟨h1,_⟩
  · rw [ei] at h1; simp at h1
  · simp at h1; exact hne h1
 have haccd:=haccs d (List.mem_of_getElem? hd)
 obtain ⟨U,hU⟩:=hI.sep
 have hun:ObS P w0 ops H Fi ξ i { o with guard:=none } d→Oper.wpY P o a w K Q:=by
  intro hOb
  unfold ObS at hOb
  simp only at hOb
  obtain ⟨V,W,hV,hVr,hWr,hVW,hcl⟩:=touch2 haccd (fun e he=>by simpa using hal e he) hU
  rw [hpicked] at hV
  refine hOb o a w V K Q rfl hagr hI.bel hV fun v w' V' hφ hm hs=>?_
  have hval:d.ov.val (upd ξ i v) i=v:=by
   cases hov:d.ov with
   | det u=>simp only [hov,OV.holds,bA] at hφ; simp [OV.val,hφ]
   | nd φ=>simp [OV.val,bA]
  refine k (upd ξ i v) _ _ ⟨by simpa using hI.len,hdown',hnd _ (fun j hj=>jV hj) hφ,?_,?_,hreg' _ v (fun j hj=>jV hj) hval,hm.below hI.bel fun k hk=>(hVr k hk).1,?_⟩
  · cases o.dst <;> simp [Act.put,hI.size]
  · cases o.dst <;> simp [Act.put,hI.defers]
  · refine hcl w' _ V' (by simp) (fun j hj=>?_) (fun k hk=>hm.block k (hWr k hk).2 fun hv=>hVW k hv hk) (fun k hk hw=>(hm.new k hk).elim (fun hv=>hVW k hv hw) fun hge=>absurd (hWr k hw).2 (by omega)) ?_
    · rw [List.getElem?_map,List.getElem?_map]
      cases hh:H[j]? with
      | none=>rfl
      | some h=>simp [hkeep _ (fun j hj=>jV hj) j h hh (hmiss j h hh hj)]
    · have:(d.acc.filterMap fun e=>(H.map fun h=>h.at (done (l.setIfInBounds i true)) (upd ξ i v))[e]?)=d.acc.filterMap fun e=>(H[e]?).map fun h=>h.at (fun j=>Nat.blt j (i+1)) (upd ξ i v):=by
       refine Sx.List.filterMap_congr_mem fun e he=>?_
       rw [List.getElem?_map]
       cases hh:H[e]? with
       | none=>rfl
       | some h =>
        simp only [Option.map_some,Option.some.injEq]
        refine Hist.at_congr (fun p hp=>?_) fun _ _ _=>rfl
        have hs':=hacc e he
        rw [hh] at hs'
        simp only [List.all_eq_true] at hs'
        have:=side (hs' p hp) hi hI.down hpre
        rw [gw hlt,this]
        simp only [en]
        by_cases e:p.1=i
        · subst e; simp
        · have hb:Nat.beq p.1 i=false:=by
           cases hb:Nat.beq p.1 i with
           | false=>rfl
           | true=>exact absurd (Nat.eq_of_beq_eq_true hb) e
          simp only [hb,cond_false,decide_eq_decide]
          omega
      rw [this]
      exact hs
 rcases hOb with hOb | ⟨j,want,hg1,hg2,hg3,hOb⟩
 rotate_left
 · obtain ⟨dj,hdj⟩:=Option.isSome_iff_exists.1 hg3
   rw [hdj] at hg2
   simp only [Option.getD_some] at hg2
   have hr:=hregs dj (by simp [jP,hg1,hdj]) _ hg2
   have hw:Region.wanted o (yielded ops.toArray a.tmps)=true:=by
    have hdj':(ops.toArray[j]?).bind (·.dst)=some dj:=by simpa using hdj
    simp only [Region.wanted,hg1,yielded,hdj',Option.bind_some,hr]
    cases want <;> rfl
   rw [hw,if_pos rfl]
   exact hun hOb
 cases hgd:o.guard with
 | none =>
  simp only [Region.wanted,hgd,if_true]
  refine hun ?_
  have:({ o with guard:=none }:Oper)=o:=by cases o; simp only at hgd; subst hgd; rfl
  rw [this]; exact hOb
 | some jw =>
  obtain ⟨j,want⟩:=jw
  unfold ObS at hOb
  rw [hgd] at hOb
  obtain ⟨c,b,g,v,hlk,hdj,hg,hov,hne,hst⟩:=hOb
  obtain ⟨dj,hdj⟩:=Option.isSome_iff_exists.1 hdj
  rw [hdj] at hlk
  simp only [Option.getD_some] at hlk
  have hr:=hregs dj (by simp [jP,hgd,hdj]) _ hlk
  have hw:Region.wanted o (yielded ops.toArray a.tmps)=g:=by
   have hdj':(ops.toArray[j]?).bind (·.dst)=some dj:=by simpa using hdj
   rw [← hg]
   simp only [Region.wanted,hgd,yielded,hdj',Option.bind_some,hr]
   cases c <;> cases b <;> cases want <;> rfl
  have hall:∀ (ξ':Nat→Value),(∀ j,j≠i→ξ' j=ξ j)→(H.map fun h=>h.at (done (l.setIfInBounds i true)) ξ')=H.map fun h=>h.at (done l) ξ:=by
   intro ξ' he
   apply List.ext_getElem?
   intro e
   rw [List.getElem?_map,List.getElem?_map]
   cases hh:H[e]? with
   | none=>rfl
   | some h =>
    simp only [Option.map_some,Option.some.injEq]
    refine hkeep ξ' he e h hh ?_
    by_cases hm:e∈d.acc
    · exact hne e hm h hh
    · exact hmiss e h hh hm
  have hval:d.ov.val (upd ξ i (gv g v)) i=gv g v:=by rw [hov]; rfl
  have hhold:d.ov.holds (upd ξ i (gv g v)) i:=by rw [hov]; exact bA _ _ _
  rw [hw]
  have hfin:∀ w' U',Below w0.heap.size w0 w'→Sep w0.heap.size w' (H.map fun h=>h.at (done l) ξ) U'→K (a.put o.dst (gv g v)) w':=by
   intro w' U' hb hs
   refine k (upd ξ i (gv g v)) _ _ ⟨by simpa using hI.len,hdown',hnd _ (fun j hj=>jV hj) hhold,?_,?_,hreg' _ _ (fun j hj=>jV hj) hval,hb,U',by rw [hall _ fun j hj=>jV hj]; exact hs⟩
   · cases o.dst <;> simp [Act.put,hI.size]
   · cases o.dst <;> simp [Act.put,hI.defers]
  cases g with
  | false=>exact hfin w U hI.bel hU
  | true =>
   obtain ⟨V,W,hV,hVr,hWr,hVW,hcl⟩:=touch2 haccd (fun e he=>by simpa using hal e he) hU
   have hV':=hV
   rw [hpicked] at hV'
   refine hst rfl o a w V K Q rfl hagr hI.bel hV' fun v' w' V' hφ hm hs=>?_
   subst hφ
   rw [← hpicked] at hs
   obtain ⟨U',hU'⟩:=hcl w' _ V' rfl (fun _ _=>rfl) (fun k hk=>hm.block k (hWr k hk).2 fun hv=>hVW k hv hk) (fun k hk hw=>(hm.new k hk).elim (fun hv=>hVW k hv hw) fun hge=>absurd (hWr k hw).2 (by omega)) hs
   exact hfin w' U' (hm.below hI.bel fun k hk=>(hVr k hk).1) hU'
theorem Inv.all2 (hc:chk ops D H=true) (haccs:∀ d∈D,qc d.acc=true) (hN:∀ o∈ops,∀ t,o.dst=some t→t < N) (hob:Obl2 P w0 ops D H ops D 0 (fun _=>F))
 (hend:∀ l ξ a w,(∀ i,i < ops.length→done l i=true)→Inv w0 N F ops D H l ξ a w→Q .normal a w):∀ (fuel:Nat) (l:Array Bool) (ξ:Nat→Value) (a:Act) (w:World),l.toList.count false=fuel→Inv w0 N F ops D H l ξ a w →
 wpAnyIn (rf none) 0 P .any ops.toArray Q fuel l a w:=by
 have hlenD:ops.length=D.length:=by
  simp only [chk,Bool.and_eq_true] at hc
  exact Nat.eq_of_beq_eq_true hc.1.1
 have hready:∀ (l:Array Bool),l.size=ops.length→Region.ready .any ops.toArray l=[]→∀ i,i < ops.length→done l i=true:=by
  intro l hl hr i
  induction i using Nat.strongRecOn with
  | _ i ih =>
   intro hi
   cases hd:done l i with
   | true=>rfl
   | false =>
    exfalso
    have ho:ops[i]?=some ops[i]:=List.getElem?_eq_getElem hi
    have hdD:D[i]?=some (D[i]'(by omega)):=List.getElem?_eq_getElem _
    have hck:=nQ hc ho hdD
    simp only [qi,Bool.and_eq_true,List.all_eq_true] at hck
    have hmem:i∈Region.ready .any ops.toArray l:=by
     refine mem_ready.2 ⟨?_,ops[i],by simp,fun e he hb=>?_⟩
     · simp only [done,Array.getD_eq_getD_getElem?] at hd ⊢
       have:l[i]?=some (l[i]'(by omega)):=Array.getElem?_eq_getElem _
       rw [this] at hd ⊢
       exact hd
     · have hlt:=hck.1.1.1.1.1 e.on (kd.2 ⟨e,he,hb,rfl⟩)
       rw [en] at hlt
       have hlt:=of_decide_eq_true hlt
       exact ih e.on hlt (by omega)
    rw [hr] at hmem
    cases hmem
 intro fuel
 induction fuel with
 | zero =>
  intro l ξ a w hcnt hI
  have hall:∀ i,i < ops.length→done l i=true:=by
   intro i hi
   have hl:l[i]?=some (l[i]'(by rw [hI.len]; exact hi)):=Array.getElem?_eq_getElem _
   simp only [done,Array.getD_eq_getD_getElem?,hl,Option.getD_some]
   have:false ∉ l.toList:=List.count_eq_zero.1 hcnt
   cases hb:l[i]'(by rw [hI.len]; exact hi) with
   | true=>rfl
   | false=>exact absurd (by rw [← hb]; exact Array.getElem_mem_toList _) this
  refine ⟨?_,hend l ξ a w hall hI⟩
  rw [List.eq_nil_iff_forall_not_mem]
  intro i hi
  obtain ⟨h1,o,ho,_⟩:=mem_ready.1 hi
  have hlt:i < ops.length:=by
   have:=(Array.getElem?_eq_some_iff.1 ho).1
   simpa using this
  have:=hall i hlt
  have hl:l[i]?=some (l[i]'(by rw [hI.len]; exact hlt)):=Array.getElem?_eq_getElem _
  simp only [done,Array.getD_eq_getD_getElem?,hl,Option.getD_some] at this h1
  rw [this] at h1; cases h1
 | succ fuel ih =>
  intro l ξ a w hcnt hI
  refine ⟨fun hr=>hend l ξ a w (hready l hI.len hr) hI,fun i hi=>?_⟩
  obtain ⟨h1,o,ho,hpre⟩:=mem_ready.1 hi
  have ho':ops[i]?=some o:=by simpa using ho
  have hlt:i < ops.length:=(List.getElem?_eq_some_iff.1 ho').1
  have hl:l[i]?=some (l[i]'(by rw [hI.len]; exact hlt)):=Array.getElem?_eq_getElem _
  have hdone:done l i=false:=by
   simp only [done,Array.getD_eq_getD_getElem?,hl,Option.getD_some] at h1 ⊢
   exact h1
  have hpre':∀ j,Bef ops j i→done l j=true:=by
   intro j hb
   cases hb with
   | edge h1 h2 =>
    rw [ho'] at h1; simp only [Option.some.injEq] at h1; subst h1
    obtain ⟨e,he,hb,rfl⟩:=kd.1 h2
    exact hpre e he hb
   | more h1 h2 h3 =>
    rw [ho'] at h1; simp only [Option.some.injEq] at h1; subst h1
    obtain ⟨e,he,hb,rfl⟩:=kd.1 h2
    exact hI.down _ _ h3 (hpre e he hb)
  have hdD:D[i]?=some (D[i]'(by omega)):=List.getElem?_eq_getElem _
  have hstep:=hI.step2 (Q:=Q) (K:=wpAnyIn (rf none) 0 P .any ops.toArray Q fuel (l.setIfInBounds i true)) hc haccs hN hob ho' hdD hdone hpre' fun ξ' a' w' hI'=>ih _ ξ' a' w' (by
   have hl':l.toList[i]?=some false:=by
    rw [Array.getElem?_toList]
    simp only [done,Array.getD_eq_getD_getElem?,hl,Option.getD_some] at hdone
    rw [hl,hdone]
   have:=pH hl'
   rw [Array.toList_setIfInBounds]
   omega) hI'
  unfold wpOpIn
  rw [ho]
  simp only
  split
  · rename_i hw; rw [if_pos hw] at hstep; exact op_in (.inl rfl) hstep
  · rename_i hw; rw [if_neg hw] at hstep; exact ⟨fun _ _=>trivial,hstep⟩
theorem vG (hm:P.follows .mixedOrders=true) {id:Nat} {a:Act} {w:World} {L:List Asn} (D:List DOp) (H:List Hist) (h:St w0 N F L a w) (hL:H.map (·.init)=L) (hc:(chk ops D H && D.all (fun d=>qc d.acc) && qQ ops N)=true)
 (hob:Obl2 P w0 ops D H ops D 0 (fun _=>F)) (k:∀ ξ a w,(∀ j,jv D ξ j)→St w0 N (endF ops D 0 ξ F) (H.map fun h=>h.at (fun _=>true) ξ) a w→Q .normal a w):(Code.region id ops.toArray true).wp P Q a w:=by
 simp only [Bool.and_eq_true] at hc
 obtain ⟨⟨hc,hacc⟩,hN⟩:=hc
 have hlenD:ops.length=D.length:=by
  have:=hc
  simp only [chk,Bool.and_eq_true] at this
  exact Nat.eq_of_beq_eq_true this.1.1
 have hz:∀ (m i:Nat),done (Array.replicate m false) i=false:=by
  intro m i
  simp only [done,Array.getD_eq_getD_getElem?,Array.getElem?_replicate]
  split <;> rfl
 refine (wpIn_wide (n:=0)).1 (wpIn_region_any (F:=rf none) hm ?_)
 refine Inv.all2 (N:=N) (w0:=w0) (F:=F) hc (fun d hd=>List.all_eq_true.1 hacc d hd) (fun o ho t ht=>?_) hob ?_ _ _ (fun _=>undef) _ _ ?_ ?_
 · have:=List.all_eq_true.1 hN o ho
   rw [ht] at this
   exact Nat.le_of_ble_eq_true this
 · intro l ξ a w hall hI
   have hreg:∀ t,look (endF ops D 0 ξ F) t=jl (dd ops D) F (done l) ξ t:=by
    intro t
    rw [pE ops D 0 ξ F rfl rfl hlenD (fun t=>by rw [jq]; intro j; simp [en])]
    refine g8 (fun p hp _=>?_) fun _ _ _ _=>rfl
    have hlt:p.2 < ops.length:=by
     have:=(List.getElem?_eq_some_iff.1 (cH.1 hp)).1
     simp only [dd,List.length_map,List.length_zip] at this
     omega
    rw [hall _ hlt,en]
    simpa using hlt
   have hent:(H.map fun h=>h.at (done l) ξ)=H.map fun h=>h.at (fun _=>true) ξ:=by
    apply List.ext_getElem?
    intro e
    rw [List.getElem?_map,List.getElem?_map]
    cases hh:H[e]? with
    | none=>rfl
    | some h =>
     simp only [Option.map_some,Option.some.injEq]
     refine Hist.at_congr (fun p hp=>?_) fun _ _ _=>rfl
     have hck:=hc
     simp only [chk,Bool.and_eq_true] at hck
     have:=List.all_eq_true.1 (List.all_eq_true.1 hck.1.2 h (List.mem_of_getElem? hh)) p hp
     rw [en] at this
     exact hall _ (of_decide_eq_true this)
   refine k ξ a w (fun j=>?_) ⟨hI.size,hI.defers,fun t v hv=>hI.regs t v (by rw [← hreg t]; exact hv),hI.bel,by rw [← hent]; exact hI.sep⟩
   unfold jv
   split
   · rename_i φ acc hD
     have hlt:j < ops.length:=by rw [hlenD]; exact (List.getElem?_eq_some_iff.1 hD).1
     exact hI.val j (hall j hlt) _ hD
   · trivial
 · simp
 · obtain ⟨U,hU⟩:=h.sep
   refine ⟨by simp,fun i j _ hi=>(by rw [hz] at hi; cases hi),fun i hi=>(by rw [hz] at hi; cases hi),h.size,h.defers,fun t v hv=>?_,?_,U,?_⟩
   · rw [jq (fun j=>hz _ j)] at hv
     exact h.regs t v hv
   · exact ⟨h.bel.os,h.bel.tape,h.bel.output,h.bel.size,h.bel.block,Nat.le_succ_of_le h.bel.drawn⟩
   · have:(H.map fun h=>h.at (done (Array.replicate ops.toArray.size false)) fun _=>undef)=L:=by
      rw [← hL]
      refine List.map_congr_left fun h _=>?_
      unfold Hist.at
      exact mQ fun c p _=>by rw [hz]; rfl
     rw [this]
     exact Sep.keep (w:=w) (w':={ w with drawn:=w.drawn+1 }) (Nat.le_refl w.heap.size) hU fun _ _=>rfl
theorem obI {i:Nat} {ξ:Nat→Value} {G:(Nat→Value)→List (Nat×Value)} {o:Oper} {d:DOp} (h:ObS P w0 ops H G ξ i o d):ObS2 P w0 ops H G ξ i o d:=.inl h
theorem obK {i:Nat} {ξ:Nat→Value} {G:(Nat→Value)→List (Nat×Value)} {op:Op} {ty:TypeId} {pos:String} {aft:Array Edge} {dst:Option Tmp} {d:DOp} {j:Nat} {want:Bool}
 (hl:look (G ξ) (((ops[j]?).bind (·.dst)).getD 0)=some (.bool want)) (hd:((ops[j]?).bind (·.dst)).isSome=true) (h:ObS P w0 ops H G ξ i ⟨dst,op,ty,pos,aft,none⟩ d):ObS2 P w0 ops H G ξ i ⟨dst,op,ty,pos,aft,some (j,want)⟩ d :=
 .inr ⟨j,want,rfl,hl,hd,h⟩
end
end Go.Sx
namespace Go.Sx
open Go Go.RowKit
theorem i7 {v:Value} (h:lJ v):v.cells.toList=[v]:=by obtain ⟨_,_,_,rfl⟩:=h; rfl
theorem ma {v:Value} (h:lJ v):([v].all Value.oneCell')=true:=by obtain ⟨_,_,_,rfl⟩:=h; rfl
theorem NN.isl {v:Value} {n:Nat} (h:NN v n):lJ v:=h.sl.is
section
variable {P:Program} {w0:World} {F:List (Nat×Value)}
end
end Go.Sx
namespace Go.Sx
open Go Go.RowKit
def Asn.obj (b:Nat) (o:Obj):Asn:=⟨fun w f=>(∀ k,f k↔k=b)∧w.heap[b]?=some o,fun h ⟨h1,h2⟩=>⟨h1,by rw [h _ ((h1 _).2 rfl)]; exact h2⟩⟩
section
variable {P:Program} {w0:World} {N:Nat} {F:List (Nat×Value)} {L:List Asn} {a:Act} {w:World} {ops:Array Oper} {Q:Exit→Act→World→Prop} {rest:List Oper}
theorem sA {lo b:Nat} {o:Obj} {U:Fp} (h:Sep lo w (.obj b o::L) U):w.heap[b]?=some o∧lo≤b∧b < w.heap.size:=by
 obtain ⟨f,V,_,_,hf,⟨h1,h2⟩,_⟩:=h
 exact ⟨h2,hf b ((h1 b).2 rfl)⟩
theorem rm {lo b:Nat} {o o':Obj} {U:Fp} (h:Sep lo w (.obj b o::L) U):Sep lo (w.putObj b o') (.obj b o'::L) U:=by
 obtain ⟨f,V,hU,hd,hf,⟨h1,h2⟩,hs⟩:=h
 refine ⟨f,V,hU,hd,fun k hk=>⟨(hf k hk).1,by rw [World.putObj_size]; exact (hf k hk).2⟩,⟨h1,World.putObj_heap_same (hf b ((h1 b).2 rfl)).2⟩,hs.keep (by simp) fun k hk=>World.putObj_heap_other fun e=>hd k ((h1 k).2 e) hk⟩
theorem m6 {b:Nat} {o':Obj} (h:Below w0.heap.size w0 w) (hb:w0.heap.size≤b):Below w0.heap.size w0 (w.putObj b o') :=
 ⟨h.os,h.tape,h.output,by rw [World.putObj_size]; exact h.size,fun k hk=>by rw [World.putObj_heap_other (by omega)]; exact h.block k hk,h.drawn⟩
theorem sB {lo:Nat} {U:Fp} (hlo:lo≤w.heap.size) (o:Obj) (h:Sep lo w L U):Sep lo (w.alloc o) (.obj w.heap.size o::L) (fun k=>k=w.heap.size∨U k) :=
 ⟨fun k=>k=w.heap.size,U,fun _=>Iff.rfl,fun k hk hu=>by have:=(h.range k hu).2; omega,fun k hk=>by subst hk; exact ⟨hlo,by simp⟩,⟨fun _=>Iff.rfl,World.alloc_heap_new w o⟩,
  h.keep (by simp) fun k hk=>by
   have:=(h.range k hk).2
   show (w.heap.push o)[k]?=_
   rw [Array.getElem?_push_lt this]; exact (Array.getElem?_eq_getElem this).symm⟩
theorem pP (o:Obj) (h:Below w0.heap.size w0 w):Below w0.heap.size w0 (w.alloc o) :=
 ⟨h.os,h.tape,h.output,by rw [World.size_alloc]; have:=h.size; omega,fun k hk=>by
  have:=h.size
  rw [← h.block k hk]
  show (w.heap.push o)[k]?=_
  rw [Array.getElem?_push_lt (by omega)]; exact (Array.getElem?_eq_getElem (by omega)).symm,h.drawn⟩
def Rnd (P:Program) (w0:World) (l:Nat) (args:Array Value) (J J':Asn):Prop :=
 ∀ w B,Below w0.heap.size w0 w→(∃ U,Sep w0.heap.size w [J,B] U)→YieldAt' P l args w fun e w'=>e=.returned (.bool true)∧Below w0.heap.size w0 w'∧∃ U,Sep w0.heap.size w' [J',B] U
where YieldAt' (P:Program) (l:Nat) (args:Array Value) (W:World) (R:Ending→World→Prop):Prop :=
 ∃ fn tmps assign body,(Instr.yield l args).run P W=.ok (.round l fn tmps assign body) W∧RoundIn Fence.wide 0 P l fn tmps assign body W R
theorem q7 {l:Nat} {x:Operand} {args:Array Operand} {ats:Array TypeId} {vs:List Value} {r:Result Next} (hx:ev F x=some (.func (.yield l) #[] #[])) (ha:evs F args.toList=some vs) {o:Oper} (ho:o.op=.call ⟨.value x,args,ats⟩) (hg:Agr F a) (w:World)
 (hr:(Instr.yield l vs.toArray).run P w=r):(execOp a.eval o).run P w=r:=by
 have hm:args.map a.eval=vs.toArray:=by
  have:=hg.evs ha
  rw [← this,← Array.toList_map,Array.toArray_toList]
 simp [execOp,ho,resolve,Deferred.ofValue,hm,hg x _ hx,invoke,hr]
def StepBY (P:Program) (w0:World) (F:List (Nat×Value)) (L:List Asn) (op:Op) (φ:Value→Prop) (L':Value→List Asn):Prop :=
 ∀ (o:Oper) (a:Act) (w:World) (B:Asn) (K:Act→World→Prop) (Q:Exit→Act→World→Prop),o.op=op→Agr F a→Below w0.heap.size w0 w→(∃ U,Sep w0.heap.size w (L++[B]) U) →
  (∀ v w',φ v→Below w0.heap.size w0 w'→(∃ U',Sep w0.heap.size w' (L' v++[B]) U')→K (a.put o.dst v) w')→Oper.wpY P o a w K Q
theorem StepBY.step {φ:Value→Prop} {op:Op} {L':Value→List Asn} (h:StepBY P w0 F L op φ L'):uH P w0 F L op φ L':=by
 intro o a w U K Q ho ha hb hs k
 have hB:Sep w0.heap.size w [Asn.others w0.heap.size w U] (fun k=>w0.heap.size≤k∧k < w.heap.size∧¬ U k) :=
  ⟨fun k=>w0.heap.size≤k∧k < w.heap.size∧¬ U k,fun _=>False,fun k=>by simp,fun _ _=>id,fun k hk=>⟨hk.1,hk.2.1⟩,⟨fun _=>Iff.rfl,fun _ _=>rfl⟩,fun _=>id⟩
 refine h o a w _ K Q ho ha hb ⟨_,hs.append hB fun k hk hn=>hn.2.2 hk⟩ fun v w' hv hb' ⟨U',hU'⟩=>?_
 obtain ⟨V,W,hV,hW,hVW,_⟩:=hU'.split
 obtain ⟨f,X,hWf,_,hfr,⟨hf,hfe⟩,hX⟩:=hW
 have hWk:∀ k,w0.heap.size≤k→k < w.heap.size→¬ U k→W k:=fun k h1 h2 h3=>(hWf k).2 (.inl ((hf k).2 ⟨h1,h2,h3⟩))
 refine k v w' V hv ⟨hb'.os.trans hb.os.symm,hb'.tape.trans hb.tape.symm,hb'.output.trans hb.output.symm,fun n hn hU=>?_,fun k hk hu=>?_,fun k hk=>?_,fun _=>hb'.drawn⟩ hV
 · rcases Nat.lt_or_ge w0.heap.size n with hlt | hge
   · have h1:f (n - 1):=(hf _).2 ⟨by omega,by omega,fun hu=>by have:=hU _ hu; omega⟩
     have:=(hfr _ h1).2
     omega
   · exact Nat.le_trans hge hb'.size
 · rcases Nat.lt_or_ge k w0.heap.size with hlt | hge
   · rw [hb'.block k hlt,hb.block k hlt]
   · exact hfe k ((hf k).2 ⟨hge,hk,hu⟩)
 · rcases Nat.lt_or_ge k w.heap.size with hlt | hge
   · refine .inl (Classical.byContradiction fun hu=>hVW k hk (hWk k (hV.range k hk).1 hlt hu))
   · exact .inr hge
theorem y_yield {l:Nat} {x:Operand} {args:Array Operand} {ats:Array TypeId} {vs:List Value} {J J':Asn} (hx:ev F x=some (.func (.yield l) #[] #[])) (ha:evs F args.toList=some vs) (hY:Rnd P w0 l vs.toArray J J') :
 uH P w0 F [J] (.call ⟨.value x,args,ats⟩) (·=.bool true) (fun _=>[J']) :=
 StepBY.step fun o a w B K Q ho hg hb hs k=>by
  obtain ⟨f,ts,b,c,hr,hc⟩:=hY w B hb hs
  refine .inr ⟨l,f,ts,b,c,q7 hx ha ho hg w hr,RoundIn.mono hc ?_⟩
  rintro e w' ⟨rfl,hb',hs'⟩
  exact ⟨_,rfl,k _ w' rfl hb' hs'⟩
theorem ob_yu {H:List Hist} {i:Nat} {ξ:Nat→Value} {G:(Nat→Value)→List (Nat×Value)} {op:Op} {ty:TypeId} {pos:String} {aft:Array Edge} {dst:Option Tmp} {acc:List Nat} {ol:List Oper} {v:Value} (A A':List Asn) (hA:dg H acc i ξ=A) (hA':dg H acc (i+1) (upd ξ i v)=A') (h:uH P w0 (gm (G ξ) (e6 op)) A op (·=v) (fun _=>A')):ObS P w0 ol H G ξ i ⟨dst,op,ty,pos,aft,none⟩ ⟨.det v,acc⟩:=by
 intro o a w U K Q ho ha hb hs k
 have hs1:Sep w0.heap.size w (dg H acc i ξ) U:=hs
 rw [hA] at hs1
 refine h o a w U K Q ho ha hb hs1 fun v' w' U' hv hm hs'=>?_
 subst hv
 refine k _ w' U' (bA _ _ _) hm ?_
 show Sep w0.heap.size w' (dg H acc (i+1) (upd ξ i v')) U'
 rw [hA']
 exact hs'
theorem ud {ro:Option Nat} {n:Nat} (hQ:∀ a w,¬ Q .outgrown a w):∀ {l:List Oper} {a:Act} {w:World},sC l=true→wpList P ops Q l a w→wpListIn (rf ro) n P ops Q l a w
 | [],_,_,_,h=>h
 | o::l,a,w,hn,h=>by
  have hn':sC l=true:=by unfold sC at hn ⊢; rw [List.all_cons,Bool.and_eq_true] at hn; exact hn.2
  have mono:∀ {K K':Act→World→Prop},(∀ a w,K a w→K' a w)→o.wpIn (rf ro) n P a w K Q→o.wpIn (rf ro) n P a w K' Q:=fun hk hh=>Oper.wpIn_mono hk hh
  unfold wpList at h
  unfold wpListIn
  split
  · rename_i hw
    rw [if_pos hw] at h
    rcases h with h | ⟨_,h⟩
    · exact mono (fun a w h=>ud hQ hn' h) (op_in (.inr (vf hn (List.mem_cons_self ..))) (.inl h))
    · obtain ⟨a',w',h⟩:=h
      exact absurd h (hQ a' w')
  · rename_i hw
    rw [if_neg hw] at h
    exact ⟨fun _ _=>trivial,ud hQ hn' h⟩
theorem yx {ro:Option Nat} {n:Nat} {id:Nat} {l:List Oper} (hQ:∀ a w,¬ Q .outgrown a w) (hn:sC l=true) (h:wpList P l.toArray Q l a w):(Code.region id l.toArray false).wpIn (rf ro) n P Q a w :=
 wpIn_region_lit (ud hQ hn h)
theorem seq_in {ro:Option Nat} {n:Nat} {x y:Code} (M:Act→World→Prop) (h:x.wpIn (rf ro) n P (Exit.then M Q) a w) (k:∀ a w,M a w→y.wpIn (rf ro) n P Q a w):(Code.seq x y).wpIn (rf ro) n P Q a w:=by
 refine wpIn_seq (wpIn_mono h fun e a w he=>?_)
 cases e <;> first | exact k _ _ he | exact he
def Asn.ex (A:Value→Asn):Asn:=⟨fun w f=>∃ v,(A v).sem w f,fun h ⟨v,hv⟩=>⟨v,(A v).loc h hv⟩⟩
def JE (lo:Nat) (l:Nat) (r:Loop) (A:Value→List Asn):Asn:=.ex fun v=>.all lo (.obj l (.loop r)::A v)
theorem je_open {lo l:Nat} {r:Loop} {A:Value→List Asn} {B:Asn} (h:∃ U,Sep lo w [JE lo l r A,B] U):∃ v U,Sep lo w (.obj l (.loop r)::(A v++[B])) U:=by
 obtain ⟨U,f,V,hU,hd,hf,⟨v,hv⟩,hs⟩:=h
 have hv:Sep lo w (.obj l (.loop r)::A v) f:=hv
 exact ⟨v,_,hv.append hs hd⟩
theorem je_close {lo l:Nat} {r:Loop} {A:Value→List Asn} {B:Asn} {v:Value} {U:Fp} (h:Sep lo w (.obj l (.loop r)::(A v++[B])) U):∃ U,Sep lo w [JE lo l r A,B] U:=by
 obtain ⟨V,W,hV,hW,hVW,hU⟩:=Sep.split (A:=.obj l (.loop r)::A v) h
 exact ⟨U,V,W,hU,hVW,hV.range,⟨v,hV⟩,hW⟩
theorem rnd {l fn D:Nat} {args tmps:Array Value} {ps:Array Tmp} {asg body:Code} {A A':Value→List Asn} {F0:List (Nat×Value)} (hps:args.size=ps.size)
 (hz:((ps.zip args).foldl (fun tmps (t,a)=>tmps.setIfInBounds t a) tmps).size=N)
 (hF:∀ t v,look F0 t=some v→((ps.zip args).foldl (fun tmps (t,a)=>tmps.setIfInBounds t a) tmps)[t]?=some v)
 (M:Value→List (Nat×Value)→List Asn→Prop)
 (ha:∀ v a w Y1 Y2,St w0 N F0 (A v++[Y1,Y2]) a w→asg.wpIn (rf (some l)) 0 P (Exit.then (fun a w=>∃ F1 X,M v F1 X∧St w0 N F1 (X++[Y1,Y2]) a w) fun _ _ _=>False) a w)
 (hb:∀ v F1 X,M v F1 X→∀ a w Y1 Y2,St w0 N F1 (X++[Y1,Y2]) a w→body.wpIn (rf (some l)) 0 P (fun e _ w=>e=.normal∧Below w0.heap.size w0 w∧∃ v' Y U,Sep w0.heap.size w (A' v'++[Y1,Y2]++Y) U) a w) :
 Rnd P w0 l args (JE w0.heap.size l { state:=.ready,pending:=none,fn,tmps,params:=ps,assign:=asg,body,defers:=D } A) (JE w0.heap.size l { state:=.ready,pending:=none,fn,tmps,params:=ps,assign:=asg,body,defers:=D } A'):=by
 intro w B hB hs
 obtain ⟨v,U,hU⟩:=je_open hs
 obtain ⟨hl,hlo,hhi⟩:=sA hU
 refine ⟨fn,_,asg,body,run_yield (P:=P) (args:=args) hl hps,roundIn_of_wpIn (F:=Fence.wide) trivial ?_⟩
 have st:St w0 N F0 (A v++[.obj l (.loop { state:=.ready,pending:=none,fn,tmps,params:=ps,assign:=asg,body,defers:=D }),B]) { tmps:=(ps.zip args).foldl (fun tmps (t,a)=>tmps.setIfInBounds t a) tmps,defers:=[] } w :=
  ⟨hz,rfl,hF,hB,U,hU.perm (by
   have:(Asn.obj l (.loop { state:=.ready,pending:=none,fn,tmps,params:=ps,assign:=asg,body,defers:=D })::(A v++[B])).Perm (A v++Asn.obj l (.loop { state:=.ready,pending:=none,fn,tmps,params:=ps,assign:=asg,body,defers:=D })::[B]):=List.perm_middle.symm
   exact this)⟩
 refine wpIn_mono (ha v _ _ _ _ st) fun e a w he=>?_
 cases e with
 | normal =>
  obtain ⟨F1,X,hM,h⟩:=he
  obtain ⟨U1,hU1⟩:=h.sep
  have hU1:=hU1.perm (List.perm_middle (l₁:=X) (l₂:=[B]))
  obtain ⟨hl1,hlo1,_⟩:=sA hU1
  refine ⟨_,run_beginRound hl1 rfl,?_⟩
  have hU2:=rm (o':=.loop { state:=.busy,pending:=none,fn,tmps,params:=ps,assign:=asg,body,defers:=D }) hU1
  refine wpIn_mono (hb v F1 X hM a _ (.obj l (.loop { state:=.busy,pending:=none,fn,tmps,params:=ps,assign:=asg,body,defers:=D })) B ⟨h.size,h.defers,h.regs,m6 h.bel hlo1,_,hU2.perm (List.perm_middle (l₁:=X) (l₂:=[B])).symm⟩) fun e a w he=>?_
  obtain ⟨rfl,hB3,v',Y,U3,hU3⟩:=he
  have hU3:=hU3.perm (show (A' v'++[Asn.obj l (.loop { state:=.busy,pending:=none,fn,tmps,params:=ps,assign:=asg,body,defers:=D }),B]++Y).Perm (Asn.obj l (.loop { state:=.busy,pending:=none,fn,tmps,params:=ps,assign:=asg,body,defers:=D })::(A' v'++[B])++Y) by
   refine List.Perm.append_right _ ?_
   exact List.perm_middle)
  obtain ⟨V,W,hV,_,_,_⟩:=hU3.split
  obtain ⟨hl3,hlo3,_⟩:=sA hV
  refine ⟨_,_,run_endRound none hl3,rfl,m6 hB3 hlo3,je_close (rm (o':=.loop { state:=.ready,pending:=none,fn,tmps,params:=ps,assign:=asg,body,defers:=D }) hV)⟩
 | _=>exact he.elim
theorem fold2 (p q:Nat) (x y:Value) (t:Array Value):((#[p,q].zip [x,y].toArray).foldl (fun tmps (t,a)=>tmps.setIfInBounds t a) t)=(t.setIfInBounds p x).setIfInBounds q y:=by simp
def nd (a:Act):Act:={ a with defers:=[] }
theorem c_range {g:Operand} {ps:Array Tmp} {asg body:Code} {gf:FuncId} {lb:Array Value} {A:Nat→Value→List Asn} {v0:Value} {R:List Asn} {args:Nat→Array Value} (n:Nat) (h:St w0 N F L a w)
 (hg:ev F g=some (.func (.func gf) #[] lb)) (eg:∀ args w,(callFunc gf args).run P w=.ok (.enter gf args) w) (hL:L.Perm (A 0 v0++R))
 (hit:∀ (lr:Nat) (r:Loop) (w:World) (B:Asn),Below w0.heap.size w0 w→(∃ U,Sep w0.heap.size w (JE w0.heap.size lr r (A 0)::(R++[B])) U)→(∀ k,k < n→Rnd P w0 lr (args k) (JE w0.heap.size lr r (A k)) (JE w0.heap.size lr r (A (k+1)))) →
   Calls P gf (#[.func (.yield lr) #[] #[]]++lb) w (RetY w0 (fun _=>True) fun _=>JE w0.heap.size lr r (A n)::(R++[B])))
 (hrnd:∀ lr fn D k,k < n→Rnd P w0 lr (args k) (JE w0.heap.size lr { state:=.ready,pending:=none,fn,tmps:=a.tmps,params:=ps,assign:=asg,body,defers:=D } (A k)) (JE w0.heap.size lr { state:=.ready,pending:=none,fn,tmps:=a.tmps,params:=ps,assign:=asg,body,defers:=D } (A (k+1))))
 (k:∀ a' w' D v Y,a'.defers=[{ target:=.collected D,args:=#[] }]→St w0 N F (.obj D (.deferred (some []))::(A n v++R++Y)) (nd a') w'→Q .normal a' w'):(Code.rangeFunc g ps asg body).wp P Q a w:=by
 refine wpIn_wide (n:=0).1 (wpIn_rangeFunc fun fn hfn=>?_)
 obtain ⟨U,hU⟩:=h.sep
 have hU:=hU.perm hL
 have hsz:=h.bel.size
 have s1:=sB hsz (.deferred (some [])) hU
 have b1:=pP (.deferred (some [])) h.bel
 have s2:=sB (w:=w.alloc (.deferred (some []))) (by rw [World.size_alloc]; omega) (.loop { state:=.ready,pending:=none,fn,tmps:=a.tmps,params:=ps,assign:=asg,body,defers:=w.heap.size }) s1
 have b2:=pP (.loop { state:=.ready,pending:=none,fn,tmps:=a.tmps,params:=ps,assign:=asg,body,defers:=w.heap.size }) b1
 rw [World.size_alloc] at s2
 have hev:a.eval g=.func (.func gf) #[] lb:=h.agr g _ hg
 obtain ⟨W1,hW1⟩:∃ W1,(w.alloc (.deferred (some []))).alloc (.loop { state:=.ready,pending:=none,fn,tmps:=a.tmps,params:=ps,assign:=asg,body,defers:=w.heap.size })=W1:=⟨_,rfl⟩
 rw [hW1] at s2 b2
 refine ⟨w.heap.size+1,[{ target:=.collected w.heap.size,args:=#[] }],W1,{ target:=.fn (.func gf) lb,args:=#[.func (.yield (w.heap.size+1)) #[] #[]] },W1,gf,#[.func (.yield (w.heap.size+1)) #[] #[]]++lb,W1,by rw [← hW1]; exact run_enterLoop_outer _ _ _ _ _,?_,fun _ _=>trivial,?_,fun hn=>(by cases hn),?_⟩
 · simp only [resolve,hev]
   simp [go_sem]
 · simp [invoke,go_sem,eg]
 · refine callsIn_wide.2 ((hit (w.heap.size+1) _ _ (.obj w.heap.size (.deferred (some []))) b2 ?_ (hrnd _ fn w.heap.size)).mono ?_)
   · have p:(Asn.obj (w.heap.size+1) (.loop { state:=.ready,pending:=none,fn,tmps:=a.tmps,params:=ps,assign:=asg,body,defers:=w.heap.size })::Asn.obj w.heap.size (.deferred (some []))::(A 0 v0++R)).Perm (Asn.obj (w.heap.size+1) (.loop { state:=.ready,pending:=none,fn,tmps:=a.tmps,params:=ps,assign:=asg,body,defers:=w.heap.size })::A 0 v0++(R++[Asn.obj w.heap.size (.deferred (some []))])):=by
      refine List.Perm.cons _ ?_
      show (Asn.obj w.heap.size (.deferred (some []))::(A 0 v0++R)).Perm (A 0 v0++(R++[Asn.obj w.heap.size (.deferred (some []))]))
      rw [← List.append_assoc]
      exact (List.perm_append_singleton _ _).symm
     obtain ⟨V,W,hV,hW,hVW,hU'⟩:=(s2.perm p).split
     exact ⟨_,V,W,hU',hVW,hV.range,⟨v0,hV⟩,hW⟩
   · rintro e w' ⟨v,rfl,_,hb',U',f,V,hU',hd,hf,⟨v',hv'⟩,hs'⟩
     have hv':Sep w0.heap.size w' (.obj (w.heap.size+1) (.loop { state:=.ready,pending:=none,fn,tmps:=a.tmps,params:=ps,assign:=asg,body,defers:=w.heap.size })::A n v') f:=hv'
     have hall:=hv'.append hs' hd
     obtain ⟨hl,hlo,_⟩:=sA hall
     refine ⟨none,_,run_endLoop hl (by simp),?_⟩
     have hall2:=rm (o':=.loop { state:=.exhausted,pending:=none,fn,tmps:=a.tmps,params:=ps,assign:=asg,body,defers:=w.heap.size }) hall
     refine k _ _ w.heap.size v' [.obj (w.heap.size+1) (.loop { state:=.exhausted,pending:=none,fn,tmps:=a.tmps,params:=ps,assign:=asg,body,defers:=w.heap.size })] (by show _++a.defers=_; rw [h.defers]; rfl) ⟨h.size,rfl,h.regs,m6 hb' hlo,_,hall2.perm ?_⟩
     show (Asn.obj (w.heap.size+1) _::(A n v'++(R++[Asn.obj w.heap.size (.deferred (some []))]))).Perm (Asn.obj w.heap.size (.deferred (some []))::(A n v'++R++[_]))
     rw [← List.append_assoc (A n v')]
     refine (List.Perm.cons _ (List.perm_append_singleton _ _)).trans ((List.Perm.swap _ _ _).trans (List.Perm.cons _ (List.perm_append_singleton _ _).symm))
theorem enterM {f:FuncId} {fn:Func} {c:Code} {args:List Value} {R:Ending→World→Prop} (hf:P.funcs[f]?=some fn) (hb:fn.body=some c) (hN:args.length+(fn.ntmps - args.length)=N)
 (h:∀ a,St w N (zipF 0 args) [] a w→c.wp P (bodyPostM Fence.wide 0 P fn R) a w):Calls P f args.toArray w R :=
 callsIn_wide.1 (callsIn_of_wp_marks (n:=0) hf hb trivial (wpIn_wide.2 (h _ (St.init w args fn.ntmps hN fun _ _ hv=>(kX hv).2))))
theorem rdM {d:Nat} {op:Op} {ty:TypeId} {pos:String} {aft:Array Edge} (h:St w0 N F L (nd a) w) (i:Nat) {r:Asn} {v:Value} (hi:L[i]?=some r) (hs:Rd P w0 F [r] op v) (hd:Nat.blt d N=true) (k:∀ a' w,a'.defers=a.defers→St w0 N ((d,v)::F) L (nd a') w→wpList P ops Q rest a' w) :
 wpList P ops Q (⟨some d,op,ty,pos,aft,none⟩::rest) a w :=
 wpList_plain rfl fun K hK=>by
  obtain ⟨U,hU⟩:=h.sep
  have e:a.eval=(nd a).eval:=rfl
  unfold Oper.wp
  rw [e,(hs.of_mem hi) _ (nd a) w U rfl h.agr h.bel hU]
  exact hK _ _ (k _ _ rfl (h.put hd v h.bel hU))
theorem retM {fn:Func} {R:Ending→World→Prop} {D:Nat} {rs:List ResultVar} {vs:List Value} {v:Value} (hd:a.defers=[{ target:=.collected D,args:=#[] }]) (h:St w0 N F (.obj D (.deferred (some []))::L) (nd a) w) (hrs:fn.results=rs.toArray)
 (hr:∀ w,Res P w F (.obj D (.deferred none)::L) rs vs) (hv:tJ vs=v) (hR:∀ w,St w0 N F (.obj D (.deferred none)::L) (nd a) w→R (.returned v) w):bodyPostM Fence.wide 0 P fn R .ret a w:=by
 show LeavesInM Fence.wide 0 P fn a.tmps R a.defers .returning w
 obtain ⟨U,hU⟩:=h.sep
 obtain ⟨hl,hlo,_⟩:=sA hU
 rw [hd]
 have st:St w0 N F (.obj D (.deferred none)::L) (nd a) (w.putObj D (.deferred none)):=⟨h.size,h.defers,h.regs,m6 h.bel hlo,_,rm hU⟩
 refine ⟨by simp,.inl ⟨D,_,rfl,run_takeDeferred hl,?_⟩⟩
 exact ⟨v,lW hrs (hr _) st hv,hR _ st⟩
end
end Go.Sx
namespace Go.Sx
open Go Go.RowKit Go.Proofs
set_option maxRecDepth 100000
structure Pnt where
 x:GQ
 y:GQ
 deriving DecidableEq
structure Smp where
 t:GQ
 p:Pnt
 deriving DecidableEq
structure RPt where
 x:GR
 y:GR
 deriving DecidableEq
def cPt (x:Pnt):List Value:=cQ x.x++cQ x.y
def cSm (x:Smp):List Value:=cQ x.t++cPt x.p
def cRP (x:RPt):List Value:=cR x.x++cR x.y
def vPt (x:Pnt):Value:=.agg (cPt x).toArray
def vSm (x:Smp):Value:=.agg (cSm x).toArray
def vRP (x:RPt):Value:=.agg (cRP x).toArray
instance yM4_1:Inhabited Pnt:=⟨⟨oQ,oQ⟩⟩
instance yM4_2:Inhabited Smp:=⟨⟨oQ,⟨oQ,oQ⟩⟩⟩
theorem onePt (x:Pnt):∀ c∈cPt x,c.oneCell'=true:=dS (wG _) (wG _)
instance yM4_3:Cod Pnt:=⟨cPt,8,fun _=>rfl,onePt,by decide⟩
instance yM4_4:Cod Smp:=⟨cSm,12,fun _=>rfl,fun x=>dS (wG _) (onePt _),by decide⟩
instance yM4_5:Cod RPt:=⟨cRP,18,fun _=>rfl,fun x=>dS (wF _) (wF _),by decide⟩
instance yM4_6 (x:Pnt):Cel (vPt x) (cPt x):=⟨rfl⟩
instance yM4_7 (x:Smp):Cel (vSm x) (cSm x):=⟨rfl⟩
instance yM4_8 (x:RPt):Cel (vRP x) (cRP x):=⟨rfl⟩
instance yM4_9 (x:Pnt):Dc (cPt x) (vPt x):=⟨rfl⟩
instance yM4_10 (x:Smp):Dc (cSm x) (vSm x):=⟨rfl⟩
instance yM4_11 (x:RPt):Dc (cRP x) (vRP x):=⟨rfl⟩
def SzPt (k:Nat) (x:Pnt):Prop:=SzQ k x.x∧SzQ k x.y
def xi (k:Nat) (x:Smp):Prop:=SzQ k x.t∧SzPt k x.p
instance yM4_12:Sz Tryz.prog 39 8:=⟨Tryz.sizeOf39⟩
instance yM4_13:Sz Tryz.prog 145 12:=⟨Tryz.sizeOf145⟩
instance yM4_14:Sz Tryz.prog 165 36:=⟨Tryz.sizeOf165⟩
instance yM4_15:Sz Tryz.prog 49 18:=⟨Tryz.sizeOf49⟩
instance yM4_16:Sz Tryz.prog 77 1:=⟨Tryz.sizeOf77⟩
instance yM4_17:Ag Tryz.prog 77 false:=⟨Tryz.isAgg77⟩
instance yM4_18:Sz Tryz.prog 35 1:=⟨Tryz.sizeOf35⟩
instance yM4_19:Ag Tryz.prog 35 false:=⟨Tryz.isAgg35⟩
instance yM4_20:Sz Tryz.prog 159 1:=⟨Tryz.sizeOf159⟩
instance yM4_21:Ag Tryz.prog 159 false:=⟨Tryz.isAgg159⟩
instance yM4_22:Ag Tryz.prog 39 true:=⟨Tryz.isAgg39⟩
instance yM4_23:Ag Tryz.prog 145 true:=⟨Tryz.isAgg145⟩
instance yM4_24:Ag Tryz.prog 165 true:=⟨Tryz.isAgg165⟩
instance yM4_25:Ag Tryz.prog 49 true:=⟨Tryz.isAgg49⟩
instance yM4_26:Un Tryz.prog 159 (.slice 145):=⟨Tryz.runUnderlying159⟩
instance yM4_27:Un Tryz.prog 35 (.slice 165):=⟨Tryz.runUnderlying35⟩
instance yM4_28:Fl Tryz.prog 39 0 29 0:=⟨⟨_,_,uu39,rfl,rfl,rfl⟩⟩
instance yM4_29:Fl Tryz.prog 39 1 29 4:=⟨⟨_,_,uu39,rfl,rfl,rfl⟩⟩
instance yM4_30:Fl Tryz.prog 145 0 29 0:=⟨⟨_,_,uu145,rfl,rfl,rfl⟩⟩
instance yM4_31:Fl Tryz.prog 145 1 39 4:=⟨⟨_,_,uu145,rfl,rfl,rfl⟩⟩
instance yM4_32:Fl Tryz.prog 165 0 74 0:=⟨⟨_,_,uu165,rfl,rfl,rfl⟩⟩
instance yM4_33:Fl Tryz.prog 165 1 163 20:=⟨⟨_,_,uu165,rfl,rfl,rfl⟩⟩
instance yM4_34:Fl Tryz.prog 49 0 46 0:=⟨⟨_,_,uu49,rfl,rfl,rfl⟩⟩
instance yM4_35:Fl Tryz.prog 49 1 46 9:=⟨⟨_,_,uu49,rfl,rfl,rfl⟩⟩
instance yM4_36:Cf Tryz.prog 16:=⟨Tryz.call16⟩
instance yM4_37:Cf Tryz.prog 89:=⟨Tryz.call89⟩
instance yM4_38:Cf Tryz.prog 98:=⟨Tryz.call98⟩
instance yM4_39:Cf Tryz.prog 110:=⟨Tryz.call110⟩
instance yM4_40:Cf Tryz.prog 25:=⟨Tryz.call25⟩
instance yM4_41:Cf Tryz.prog 213:=⟨Tryz.call213⟩
instance yM4_42:Cf Tryz.prog 407:=⟨Tryz.call407⟩
instance yM4_43:Cf Tryz.prog 206:=⟨Tryz.call206⟩
instance yM4_44:Cf Tryz.prog 108:=⟨Tryz.call108⟩
instance yM4_45:Cf Tryz.prog 17:=⟨Tryz.call17⟩
instance yM4_46:Cf Tryz.prog 19:=⟨Tryz.call19⟩
instance yM4_47:Cf Tryz.prog 100:=⟨Tryz.call100⟩
instance yM4_48:Cf Tryz.prog 18:=⟨Tryz.call18⟩
instance yM4_49:Cf Tryz.prog 64:=⟨Tryz.call64⟩
instance yM4_50:Cf Tryz.prog 91:=⟨Tryz.call91⟩
instance yM4_51:Cf Tryz.prog 141:=⟨Tryz.call141⟩
instance yM4_52:Cf Tryz.prog 115:=⟨Tryz.call115⟩
instance yM4_53:Cf Tryz.prog 29:=⟨Tryz.call29⟩
instance yM4_54:Cf Tryz.prog 114:=⟨Tryz.call114⟩
instance yM4_55:Cf Tryz.prog 99:=⟨Tryz.call99⟩
instance yM4_56:Cf Tryz.prog 20:=⟨Tryz.call20⟩
instance yM4_57:Cf Tryz.prog 205:=⟨Tryz.call205⟩
instance yM4_58:Cf Tryz.prog 215:=⟨Tryz.call215⟩
instance yM4_59:Cf Tryz.prog 216:=⟨Tryz.call216⟩
instance yM4_60:Cf Tryz.prog 125:=⟨Tryz.call125⟩
instance yM4_61:Cf Tryz.prog 126:=⟨Tryz.call126⟩
instance yM4_62:Cf Tryz.prog 128:=⟨Tryz.call128⟩
instance yM4_63:Cf Tryz.prog 129:=⟨Tryz.call129⟩
instance yM4_64:Cf Tryz.prog 212:=⟨Tryz.call212⟩
instance yM4_65:Cf Tryz.prog 279:=⟨Tryz.call279⟩
instance yM4_66:Cf Tryz.prog 214:=⟨Tryz.call214⟩
instance yM4_67:Cf Tryz.prog 109:=⟨Tryz.call109⟩
instance yM4_68:Cf Tryz.prog 111:=⟨Tryz.call111⟩
instance yM4_69:Cf Tryz.prog 112:=⟨Tryz.call112⟩
instance yM4_70:Cf Tryz.prog 113:=⟨Tryz.call113⟩
instance yM4_71:Cf Tryz.prog 207:=⟨Tryz.call207⟩
instance yM4_72:Cf Tryz.prog 104:=⟨Tryz.call104⟩
instance yM4_73:Cf Tryz.prog 105:=⟨Tryz.call105⟩
instance yM4_74:Cf Tryz.prog 103:=⟨Tryz.call103⟩
instance yM4_75:Cf Tryz.prog 107:=⟨Tryz.call107⟩
instance yM4_76:Cf Tryz.prog 176:=⟨Tryz.call176⟩
instance yM4_77:Cf Tryz.prog 65:=⟨Tryz.call65⟩
instance yM4_78:Cf Tryz.prog 93:=⟨Tryz.call93⟩
instance yM4_79:Cf Tryz.prog 116:=⟨Tryz.call116⟩
instance yM4_80:Cf Tryz.prog 117:=⟨Tryz.call117⟩
instance yM4_81:Cf Tryz.prog 118:=⟨Tryz.call118⟩
instance yM4_82:Cf Tryz.prog 119:=⟨Tryz.call119⟩
instance yM4_83:Cf Tryz.prog 121:=⟨Tryz.call121⟩
instance yM4_84:Cf Tryz.prog 278:=⟨Tryz.call278⟩
instance yM4_85:Cf Tryz.prog 229:=⟨Tryz.call229⟩
instance yM4_86:Cf Tryz.prog 230:=⟨Tryz.call230⟩
instance yM4_87:Cf Tryz.prog 231:=⟨Tryz.call231⟩
instance yM4_88:Cf Tryz.prog 232:=⟨Tryz.call232⟩
instance yM4_89:Cf Tryz.prog 313:=⟨Tryz.call313⟩
instance yM4_90:Cf Tryz.prog 314:=⟨Tryz.call314⟩
instance yM4_91:Cf Tryz.prog 280:=⟨Tryz.call280⟩
instance yM4_92:Cf Tryz.prog 88:=⟨Tryz.call88⟩
instance yM4_93:Cf Tryz.prog 211:=⟨Tryz.call211⟩
instance yM4_94:Cf Tryz.prog 173:=⟨Tryz.call173⟩
instance yM4_95:Cf Tryz.prog 168:=⟨Tryz.call168⟩
instance yM4_96:Cf Tryz.prog 177:=⟨Tryz.call177⟩
instance yM4_97:Cf Tryz.prog 67:=⟨Tryz.call67⟩
instance yM4_98:Cf Tryz.prog 227:=⟨Tryz.call227⟩
instance yM4_99:Cf Tryz.prog 315:=⟨Tryz.call315⟩
instance yM4_100:Cf Tryz.prog 336:=⟨Tryz.call336⟩
instance yM4_101:Cf Tryz.prog 337:=⟨Tryz.call337⟩
instance yM4_102:Cf Tryz.prog 338:=⟨Tryz.call338⟩
instance yM4_103:Cf Tryz.prog 339:=⟨Tryz.call339⟩
instance yM4_104:Cf Tryz.prog 340:=⟨Tryz.call340⟩
instance yM4_105:Cf Tryz.prog 341:=⟨Tryz.call341⟩
instance yM4_106:Cf Tryz.prog 342:=⟨Tryz.call342⟩
instance yM4_107:Cf Tryz.prog 368:=⟨Tryz.call368⟩
instance yM4_108:Cf Tryz.prog 359:=⟨Tryz.call359⟩
instance yM4_109:Cf Tryz.prog 362:=⟨Tryz.call362⟩
instance yM4_110:Cf Tryz.prog 363:=⟨Tryz.call363⟩
instance yM4_111:Cf Tryz.prog 377:=⟨Tryz.call377⟩
instance yM4_112:Cf Tryz.prog 374:=⟨Tryz.call374⟩
instance yM4_113:Cf Tryz.prog 384:=⟨Tryz.call384⟩
def oUN:U Ln:=⟨⟨⟨oQ,oQ,false⟩,⟨oQ,oQ,false⟩,false,false⟩,⟨oQ,oQ,oQ,oQ⟩⟩
instance yM4_114:Zc Tryz.prog 39 (cPt ⟨oQ,oQ⟩):=⟨⟨_,vv39,rfl⟩⟩
instance yM4_115:Zc Tryz.prog 145 (cSm ⟨oQ,⟨oQ,oQ⟩⟩):=⟨⟨_,vv145,rfl⟩⟩
instance yM4_116:Zc Tryz.prog 165 (cUN oUN):=⟨⟨_,vv165,rfl⟩⟩
instance yM4_117:Zc Tryz.prog 49 (cRP ⟨⟨oQ,oQ,false⟩,⟨oQ,oQ,false⟩⟩):=⟨⟨_,vv49,rfl⟩⟩
instance yM4_118:Zc Tryz.prog 77 [.slice none 0 0]:=⟨⟨_,Tryz.zeroValue77,rfl⟩⟩
instance yM4_119:Sh Tryz.prog 39 Pnt vPt:=⟨trivial⟩
instance yM4_120:Sh Tryz.prog 145 Smp vSm:=⟨trivial⟩
instance yM4_121:Sh Tryz.prog 165 (U Ln) vUN:=⟨trivial⟩
instance yM4_122:Sh Tryz.prog 49 RPt vRP:=⟨trivial⟩
theorem uC:BuildF Tryz.prog 165 (cUN oUN) [(0,20),(20,16)]:=BuildF.of vv165 rfl uu165 (by intro w; simp [Tryz.sizeOf74,Tryz.sizeOf163])
theorem bld29:BuildF Tryz.prog 39 (cPt ⟨oQ,oQ⟩) [(0,4),(4,4)]:=BuildF.of vv39 rfl uu39 (by intro w; simp [Tryz.sizeOf29])
theorem bld31:BuildF Tryz.prog 145 (cSm ⟨oQ,⟨oQ,oQ⟩⟩) [(0,4),(4,8)]:=BuildF.of vv145 rfl uu145 (by intro w; simp [Tryz.sizeOf29,Tryz.sizeOf39])
theorem bld247:BuildF Tryz.prog 49 (cRP ⟨⟨oQ,oQ,false⟩,⟨oQ,oQ,false⟩⟩) [(0,9),(9,9)]:=BuildF.of vv49 rfl uu49 (by intro w; simp [Tryz.sizeOf46])
instance yM4_123 (x:Iv) (f:Ln):Bu Tryz.prog 165 [0,1] [vV x,vN f] (vUN (⟨x,f⟩:U Ln)):=Bu.of uC rfl rfl
instance yM4_124 (x:Iv) (f:Ln):Bu Tryz.prog 292 [0,1] [vV x,vN f] (vUN (⟨x,f⟩:U Ln)):=Bu.of pN rfl rfl
instance yM4_125 (x y:GQ):Bu Tryz.prog 39 [0,1] [vQ x,vQ y] (vPt ⟨x,y⟩):=Bu.of bld29 rfl rfl
instance yM4_126 (x:GQ) (p:Pnt):Bu Tryz.prog 145 [0,1] [vQ x,vPt p] (vSm ⟨x,p⟩):=Bu.of bld31 rfl rfl
instance yM4_127 (x y:GR):Bu Tryz.prog 49 [0,1] [vR x,vR y] (vRP ⟨x,y⟩):=Bu.of bld247 rfl rfl
instance yM4_128 (a b c d:GQ):Bu Tryz.prog 163 [0,1,2,3] [vQ a,vQ b,vQ c,vQ d] (vN ⟨a,b,c,d⟩):=Bu.of w7 rfl rfl
instance yM4_129 (a c:GQ):Bu Tryz.prog 163 [0,2] [vQ a,vQ c] (vN ⟨a,oQ,c,oQ⟩):=Bu.of w7 rfl rfl
instance yM4_130 (a c d:GQ):Bu Tryz.prog 163 [0,2,3] [vQ a,vQ c,vQ d] (vN ⟨a,oQ,c,d⟩):=Bu.of w7 rfl rfl
instance yM4_131 (x y:GR):Bu Tryz.prog 74 [0,1] [vR x,vR y] (vV ⟨x,y,false,false⟩):=Bu.of mY rfl rfl
instance yM4_132 (x y:GR) (b:Bool):Bu Tryz.prog 74 [0,1,2] [vR x,vR y,.bool b] (vV ⟨x,y,b,false⟩):=Bu.of mY rfl rfl
instance yM4_133:Bu Tryz.prog 275 [] [] (.agg #[]):=Bu.of bld80 rfl rfl
instance yM4_134:Ie Tryz.prog 275:=⟨fun hx=>yD Tryz.runUnderlying275 rfl hx⟩
theorem lS:SlT Tryz.prog 35 165 36 408 (cUN oUN):=⟨Tryz.underlying35,Tryz.t165,_,Tryz.type165,rfl,rfl,rfl,rfl,rfl,by decide,by decide⟩
theorem slt23:SlT Tryz.prog 159 145 12 144 (cSm ⟨oQ,⟨oQ,oQ⟩⟩):=⟨Tryz.underlying159,Tryz.t145,_,Tryz.type145,rfl,rfl,rfl,rfl,rfl,by decide,by decide⟩
section
variable {P:Program} {w0 w:World} {N:Nat} {F:List (Nat×Value)} {L:List Asn} {a:Act} {fn:Func} {R:Ending→World→Prop}
theorem l6 {α:Type} [Cod α] {ol:List Oper} {H:List Hist} {ξ:Nat→Value} {G:(Nat→Value)→List (Nat×Value)} {st et bytes i:Nat} {zero:List Value} {x:Operand} {v:Value} {dst:Option Tmp} {ty:TypeId} {pos:String} {aft:Array Edge} (e0:Nat) (u:α) (hT:SlT P st et (Cod.n α) bytes zero) (hx:evs (gm (G ξ) (e6 (.buildSlice st 1 #[(0,x)]))) [x]=some [v]) (hv:[v].map (fun v=>v.cells.toList)=[u].map Cod.enc)
 (h1:dg H [e0] i ξ=[.emp]:=by rfl) (h2:∀ v,dg H [e0] (i+1) (upd ξ i v)=[.row et v [u]]:=by (intro v; simp only [dg,bA] <;> rfl)):ObS P w0 ol H G ξ i ⟨dst,.buildSlice st 1 #[(0,x)],ty,pos,aft,none⟩ ⟨.nd (.one i fun v=>NN v 1),[e0]⟩ :=
 oB (ψ:=fun v=>NN v 1) (B:=fun v=>[.row et v [u]]) [.emp] h1 (fun v _=>h2 v) (fun v hv=>by simpa [DF.one,bA] using hv) (jX (dG (α:=α) (xs:=[x]) [u] hT hx hv rfl (by decide)))
theorem wH {α:Type} [Cod α] {ol:List Oper} {H:List Hist} {ξ:Nat→Value} {G:(Nat→Value)→List (Nat×Value)} {st et bytes i j:Nat} {zero:List Value} {x y:Operand} {sv:Value} {dst:Option Tmp} {ty:TypeId} {pos:String} {aft:Array Edge} (eo e0:Nat) {xs:List α} {u:α} (hT:SlT P st et (Cod.n α) bytes zero) (hx:ev (gm (G ξ) (e6 (.call ⟨.builtin .append,#[x,y],#[st,st]⟩))) x=some sv) (hy:ev (gm (G ξ) (e6 (.call ⟨.builtin .append,#[x,y],#[st,st]⟩))) y=some (ξ j)) (hl:xs.length+1≤34359738368)
 (h1:dg H [eo,e0] i ξ=[.row et sv xs,.row et (ξ j) [u]]) (h2:∀ v,dg H [eo,e0] (i+1) (upd ξ i v)=[.row et v (xs++[u]),.row et (ξ j) [u]]):ObS P w0 ol H G ξ i ⟨dst,.call ⟨.builtin .append,#[x,y],#[st,st]⟩,ty,pos,aft,none⟩ ⟨.nd (.con True),[eo,e0]⟩ :=
 oB (B:=fun v=>[.row et v (xs++[u]),.row et (ξ j) [u]]) [.row et sv xs,.row et (ξ j) [u]] h1 (fun v _=>h2 v) (fun _ _=>trivial) (gQ (xs:=xs) (ys:=[u]) hT (fun w hs=>(row_view hs 0 rfl)) hx hy hl)
theorem pm {ol:List Oper} {H:List Hist} {ξ:Nat→Value} {G:(Nat→Value)→List (Nat×Value)} {i j:Nat} {x:Operand} {dst:Option Tmp} {ty:TypeId} {pos:String} {aft:Array Edge} (hij:j≠i) (hx:ev (gm (G ξ) (e6 (.assign x))) x=some (ξ j)):ObS P w0 ol H G ξ i ⟨dst,.assign x,ty,pos,aft,none⟩ ⟨.nd (.two i j fun a b=>a=b),[]⟩ :=
 ob_n (φ:=.two i j fun a b=>a=b) (v:=ξ j) [] rfl rfl (by show upd ξ i (ξ j) i=upd ξ i (ξ j) j; rw [bA,jV hij]) (aF hx)
theorem rtc {t ty b n e:Nat} {cs:List Value} {v:Value} (i:Nat) (h:St w0 N F L a w) (hR:R (.returned v) w) (hrs:fn.results=[.cell t ty].toArray:=by rfl) (ha:Ag P ty true:=by infer_instance) (hz:Sz P ty n:=by infer_instance) (hx:look F t=some (ptr b 0):=by rfl) (hi:L[i]?=some (Asn.blk b cs e):=by rfl)
 (h0:Nat.blt 0 n=true:=by rfl) (hl:((cs.drop 0).take n).length=n:=by rfl) (hv:mkv true ((cs.drop 0).take n)=v:=by rfl):bodyPost P fn R .ret a w :=
 ret h hrs (.cell hx hi ha.h hz.h h0 hl hv .nil) rfl hR
theorem qp {t ty b n e u:Nat} {cs:List Value} {v x:Value} (i:Nat) (h:St w0 N F L a w) (hR:R (.returned (.tuple [v,x].toArray)) w) (hrs:fn.results=[.cell t ty,.tmp u].toArray:=by rfl) (ha:Ag P ty true:=by infer_instance) (hz:Sz P ty n:=by infer_instance) (hx:look F t=some (ptr b 0):=by rfl) (hi:L[i]?=some (Asn.blk b cs e):=by rfl)
 (hu:look F u=some x:=by rfl) (h0:Nat.blt 0 n=true:=by rfl) (hl:((cs.drop 0).take n).length=n:=by rfl) (hv:mkv true ((cs.drop 0).take n)=v:=by rfl):bodyPost P fn R .ret a w :=
 ret h hrs (.cell hx hi ha.h hz.h h0 hl hv (.tmp hu .nil)) rfl hR
end
end Go.Sx
namespace Go.Sx
theorem qr [K:Key] {α:Type} {n:List (U α)} (hW:∀ x∈n,Wv x.iv) (h:n.Pairwise fun a b=>fg a.iv < (eW b.iv:Int)):n.Pairwise fun a b=>eW a.iv < eW b.iv :=
 h.imp_of_mem fun {a b} ha _ h=>by have:=(hW a ha).le; omega
theorem tm_sz [K:Key] {x:GR} (h:Tm x):SzR 36 x:=h.szr
end Go.Sx
