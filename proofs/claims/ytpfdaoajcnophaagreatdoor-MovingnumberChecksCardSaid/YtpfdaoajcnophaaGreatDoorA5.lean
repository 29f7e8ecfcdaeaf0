/- A part of the proof of movingnumberChecks. -/
import Derived.Test.YtpfdaoajcnophaaGreatDoorA4
import Derived.Test.YtpfdaoajcnophaaGreatDoorTie
import Derived.Test.YtpfdaoajcnophaaGreatDoorCards
import Derived.ProofKit
import Derived.OpenShut
import Derived.LaidMore
import Derived.Lay
import Derived.SevenTiedAt
import Derived.Carry
import Derived.Stop.Joined
set_option linter.unusedVariables false
set_option linter.unusedSimpArgs false
namespace Go.Sx
open Go Go.RowKit
structure At (α:Type) where
 frm:GR
 til:GR
 gap:Bool
 has:Bool
 f:α
 deriving DecidableEq
def cAI (x:At Int):List Value:=cR x.frm++(cR x.til++[.bool x.gap,.bool x.has,.int .i64 x.f])
def cAD (x:At Qd):List Value:=cR x.frm++(cR x.til++(.bool x.gap::.bool x.has::cD x.f))
def cAN (x:At Ln):List Value:=cR x.frm++(cR x.til++(.bool x.gap::.bool x.has::cN x.f))
theorem pe {v:Value} {B:List Value} (hv:v.oneCell'=true) (hB:∀ c∈B,c.oneCell'=true):∀ c∈v::B,c.oneCell'=true:=fun c h=>by
 rcases List.mem_cons.1 h with rfl | h
 · exact hv
 · exact hB c h
instance yA5_1:Cod (At Int):=⟨cAI,21,fun _=>rfl,fun x=>dB (yy _) (dB (yy _) (by simp [Value.oneCell'])),by decide⟩
instance yA5_2:Cod (At Qd):=⟨cAD,32,fun _=>rfl,fun x=>dB (yy _) (dB (yy _) (pe rfl (pe rfl (oneD _)))),by decide⟩
instance yA5_3:Cod (At Ln):=⟨cAN,36,fun _=>rfl,fun x=>dB (yy _) (dB (yy _) (pe rfl (pe rfl (oneN _)))),by decide⟩
instance yA5_4:Inhabited GI:=⟨⟨false,0⟩⟩
instance yA5_5:Inhabited GQ:=⟨⟨default,default⟩⟩
instance yA5_6:Inhabited GR:=⟨⟨default,default,false⟩⟩
instance yA5_7:Inhabited Iv:=⟨⟨default,default,false,false⟩⟩
instance yA5_8:Inhabited Qd:=⟨⟨default,default,default⟩⟩
instance yA5_9:Inhabited Ln:=⟨⟨default,default,default,default⟩⟩
instance yA5_10 {α:Type} [Inhabited α]:Inhabited (U α):=⟨⟨default,default⟩⟩
instance yA5_11 {α:Type} [Inhabited α]:Inhabited (At α):=⟨⟨default,default,false,false,default⟩⟩
def g6 (k:Nat) (x:U Qd):Prop:=SzV k x.iv∧SzD k x.f
theorem oz {j k:Nat} {x:U Qd} (h:g6 k x) (hj:j≤k):g6 j x:=⟨iU h.1 hj,fD h.2 hj⟩
theorem SzI_d (k:Nat):SzI k default:=wg k
theorem su (k:Nat):SzQ k default:=⟨SzI_d k,SzI_d k⟩
theorem SzR_d (k:Nat):SzR k default:=⟨su k,su k⟩
theorem SzV_d (k:Nat):SzV k default:=⟨SzR_d k,SzR_d k⟩
theorem SzD_d (k:Nat):SzD k default:=⟨su k,su k,su k⟩
theorem bG (k:Nat):g6 k default:=⟨SzV_d k,SzD_d k⟩
def Alt {α:Type} [Inhabited α] (l:List (At α)):Prop:=∀ j,j < l.length→(gt l j).gap=decide (j % 2=1)
theorem ii {α:Type} [Inhabited α] {l m:List α} {j:Nat} (h:j < l.length):gt (l++m) j=gt l j:=by
 simp [gt,List.getD,List.getElem?_append_left h]
theorem rT {α:Type} [Inhabited α] (l:List α) (x:α):gt (l++[x]) l.length=x:=by simp [gt,List.getD]
theorem tD {α:Type} [Inhabited α] {l:List α} {i:Nat} {x:α} (h:i < l.length):gt (l.set i x) i=x:=by simp [gt,List.getD,h]
theorem yZ {α:Type} [Inhabited α] {l:List α} {i j:Nat} {x:α} (h:i≠j):gt (l.set i x) j=gt l j:=by simp [gt,List.getD,h]
theorem Alt.nil {α:Type} [Inhabited α]:Alt ([]:List (At α)):=fun _ h=>by simp at h
theorem Alt.snoc {α:Type} [Inhabited α] {l:List (At α)} {x:At α} (h:Alt l) (hx:x.gap=decide (l.length % 2=1)):Alt (l++[x]):=fun j hj=>by
 simp at hj
 rcases Nat.lt_or_ge j l.length with h1 | h1
 · rw [ii h1]; exact h j h1
 · have:j=l.length:=by omega
   subst this
   rw [rT]; exact hx
theorem Alt.set {α:Type} [Inhabited α] {l:List (At α)} {x:At α} {i:Nat} (h:Alt l) (hx:x.gap=(gt l i).gap):Alt (l.set i x):=fun j hj=>by
 rw [List.length_set] at hj
 by_cases e:i=j
 · subst e
   rw [tD hj,hx]; exact h i hj
 · rw [yZ e]; exact h j hj
theorem qZ {α:Type} {l:List α} {i:Nat} {x:α} (h:i < l.length):(l.set i x)[i]?=some x:=by simp [h]
theorem View.len {α:Type} [Cod α] {w:World} {sv:Value} {xs:List α} (h:View w sv xs):xs.length≤9223372036854775807:=by
 have:=h.1.1; simp only [maxLen] at this; omega
theorem St.len {α:Type} [Cod α] {w0 w:World} {N:Nat} {F:List (Nat×Value)} {L:List Asn} {a:Act} {e:TypeId} {sv:Value} {xs:List α} (h:St w0 N F L a w) (i:Nat) (hi:L[i]?=some (Asn.row e sv xs)):xs.length≤9223372036854775807:=by
 have:=h.row_len i hi; simp only [maxLen] at this; omega
theorem Alt.if {α:Type} [Inhabited α] {c:Bool} {l m:List (At α)} (h:c=true→Alt l) (hm:c=false→Alt m):Alt (bif c then l else m):=by cases c; exact hm rfl; exact h rfl
theorem Alt.odd {α:Type} [Inhabited α] {l:List (At α)} (h:Alt l) {i:Nat} (hi:i < l.length) (hg:(gt l i).gap=true):i % 2=1:=by
 have:=h i hi; rw [hg] at this; exact of_decide_eq_true this.symm
theorem Alt.even {α:Type} [Inhabited α] {l:List (At α)} (h:Alt l) {i:Nat} (hi:i < l.length) (hg:(gt l i).gap=false):i % 2=0:=by
 have:=h i hi; rw [hg] at this; have:=of_decide_eq_false this.symm; omega
theorem Alt.gap {α:Type} [Inhabited α] {l:List (At α)} (h:Alt l) {i:Nat} (hi:i < l.length) (ho:i % 2=1):(gt l i).gap=true:=by rw [h i hi]; exact decide_eq_true ho
theorem m7 {sv:Value} {n:Nat} (h:SL sv n):sv.cells.toList=[sv]:=by obtain ⟨a,c,rfl⟩:=h; rfl
theorem sK {sv:Value} {n:Nat} (h:SL sv n):[sv].all Value.oneCell'=true:=by obtain ⟨a,c,rfl⟩:=h; rfl
end Go.Sx
namespace Go.Sx
open Go Go.RowKit Go.Proofs Go.ChangeShapes Go.WideShapes
theorem mX {H:Type} {enc:TypeId×Value→H} {P:Program} (hl:laidOutB P=true) {W W':World} {sp:Nat→Bool} :
 ∀ {ts:List TypeId} {vs:List Value} {ds:List (DataW H)} {ps:List MemPlace},(∀ t∈ts,P.readableRec t=true∧t < P.types.size) →
  DataW.TrodAll enc P W 0 (fun _=>true) true ts vs ds ps→(∀ p∈ps,W.sameAt W' p)→(∀ p∈ps,sp p.block=true)→DataW.TrodAll enc P W' 0 sp true ts vs ds ps
 | [],_,_,_,_,h,_,_=>by
  obtain ⟨rfl,rfl,rfl⟩:=trodAll_nil h
  rfl
 | t::ts,_,_,_,hr,h,hs,hp=>by
  obtain ⟨v,vs1,d,ds1,a,b,rfl,rfl,rfl,h1,h2⟩:=trodAll_cons h
  have hrt:=hr t (List.mem_cons_self ..)
  exact trodAll_cons_mk (WideElems.Trod_stays hl hrt.1 hrt.2 h1 (fun p hp'=>hs p (List.mem_append_left _ hp')) (fun p hp'=>hp p (List.mem_append_left _ hp')))
   (mX hl (fun t' ht=>hr t' (List.mem_cons_of_mem _ ht)) h2 (fun p hp'=>hs p (List.mem_append_right _ hp')) (fun p hp'=>hp p (List.mem_append_right _ hp')))
theorem law_post {H:Type} {enc:TypeId×Value→H} {P:Program} (hl:laidOutB P=true) {f:Func} {s:ChangeSpec} {W W':World} {args:Array Value} {ds gs:List (DataW H)} {before:List MemPlace}
 (hs:s.vars=[]) (hfn:s.fn H (ds++gs)={ results:=[.lit (.bool true)],args:=ds }) (hr:∀ t∈f.params.toList,P.readableRec t=true∧t < P.types.size)
 (ht:f.resultTypes=#[4]) (h4:P.underlying 4=some .bool) (hW:DataW.Whole enc P f.params.toList s.vars false W args.toList ds gs before) (hb:Below W.heap.size W W') :
 s.post enc P f false true false false W args (.bool true) W':=by
 have hlt:∀ p∈before,p.block < W.heap.size:=fun p hp=>by simpa using hW.lt p hp
 have hW':=hW
 obtain ⟨p,q,hA,hV,he,_,_⟩:=hW'
 rw [hs] at hV
 obtain ⟨rfl,rfl⟩:=trodVars_none hV
 simp only [List.append_nil] at he
 subst he
 refine ⟨ds,[],before,[],before,[],hW,?_,?_,?_,hb.kit.frame _,fun h=>by cases h⟩
 · rw [hfn,ht]
   exact trodAll_mk1 (shut_bool h4 _)
 · rw [hfn]
   exact mX hl hr hA (fun x hx=>hb.kit.same (hlt x hx)) (fun x hx=>by simpa using hlt x hx)
 · rw [hs,hfn]; rfl
end Go.Sx
