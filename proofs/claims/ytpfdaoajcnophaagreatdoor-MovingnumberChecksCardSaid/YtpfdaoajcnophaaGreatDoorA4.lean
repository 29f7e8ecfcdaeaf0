/- A part of the proof of movingnumberChecks. -/
import Derived.Test.YtpfdaoajcnophaaGreatDoorA3
import Derived.Lib.Bytealg
import Derived.Lib.ItoaNum
import Derived.Laws.BitsAllLaws
import Derived.Laws.Pointers
import Derived.Laws.Cover3
set_option linter.unusedVariables false
set_option linter.unusedSimpArgs false
namespace Go.Sx
open Go Go.RowKit
theorem qh (v i:Nat):v / 4294967296 ^ i % 4294967296=v % 4294967296 ^ (i+1) / 4294967296 ^ i:=by rw [Nat.pow_succ,Nat.mod_mul_right_div_self]
def mc (p d b k:Nat):Nat:=(p % 4294967296 ^ k+d*(b % 4294967296 ^ k)) / 4294967296 ^ k
theorem yI (p d b:Nat):mc p d b 0=0:=by simp [mc,Nat.mod_one]
theorem mc_lt {p d b k:Nat} (hd:d < 4294967296):mc p d b k < 4294967296:=by
 unfold mc
 rw [Nat.div_lt_iff_lt_mul (i6 k)]
 have h1:=Nat.mod_lt p (i6 k)
 have h2:=Nat.mod_lt b (i6 k)
 have h3:d*(b % 4294967296 ^ k)≤4294967295*4294967296 ^ k:=Nat.mul_le_mul (by omega) (by omega)
 omega
theorem mc_sum (p d b k:Nat):p % 4294967296 ^ (k+1)+d*(b % 4294967296 ^ (k+1))=(p % 4294967296 ^ k+d*(b % 4294967296 ^ k))+(p / 4294967296 ^ k % 4294967296+d*(b / 4294967296 ^ k % 4294967296))*4294967296 ^ k:=by
 rw [kb p,kb b,Nat.mul_add,Nat.add_mul,Nat.mul_assoc]; omega
theorem yJ (p d b k:Nat):mc p d b (k+1)=(mc p d b k+(p / 4294967296 ^ k % 4294967296+d*(b / 4294967296 ^ k % 4294967296))) / 4294967296:=by
 unfold mc
 rw [mc_sum]; exact kX.2
theorem vz (p d b k:Nat):(p+d*b) / 4294967296 ^ k % 4294967296=(mc p d b k+(p / 4294967296 ^ k % 4294967296+d*(b / 4294967296 ^ k % 4294967296))) % 4294967296:=by
 have h1:(p+d*b) % 4294967296 ^ (k+1)=(p % 4294967296 ^ (k+1)+d*(b % 4294967296 ^ (k+1))) % 4294967296 ^ (k+1):=by
  simp [Nat.add_mod,Nat.mul_mod]
 rw [qh,h1,← qh,mc_sum,kX.1]; rfl
theorem yK {p d b n:Nat} (hp:p < 4294967296 ^ n) (hb:b < 4294967296 ^ n):mc p d b n=(p+d*b) / 4294967296 ^ n:=by
 unfold mc; rw [Nat.mod_eq_of_lt hp,Nat.mod_eq_of_lt hb]
theorem mx_start {P e i:Nat}:mx P i (P+e*4294967296 ^ i)=P:=by
 unfold mx; rw [Nat.add_mul_mod_self_right]
 have:=Nat.div_add_mod P (4294967296 ^ i)
 rw [Nat.mul_comm]; exact this
theorem mb (v i k:Nat):v / 4294967296 ^ (i+k)=v / 4294967296 ^ i / 4294967296 ^ k:=by rw [Nat.pow_add,Nat.div_div_eq_div_mul]
theorem yt (a b i:Nat):a % 4294967296 ^ (i+1)*b=a % 4294967296 ^ i*b+a / 4294967296 ^ i % 4294967296*b*4294967296 ^ i:=by
 rw [kb,Nat.add_mul]
 congr 1
 rw [Nat.mul_assoc,Nat.mul_comm (4294967296 ^ i),← Nat.mul_assoc]
theorem pp_div (a b i:Nat):a % 4294967296 ^ (i+1)*b / 4294967296 ^ i=a % 4294967296 ^ i*b / 4294967296 ^ i+a / 4294967296 ^ i % 4294967296*b:=by
 rw [yt,Nat.add_mul_div_right _ _ (i6 i)]
theorem pp_lt {a b i n:Nat} (hb:b < 4294967296 ^ n):a % 4294967296 ^ i*b < 4294967296 ^ (i+n):=by
 rw [Nat.pow_add]; exact Nat.mul_lt_mul'' (Nat.mod_lt _ (i6 i)) hb
theorem pp_digit (a b i k:Nat):a % 4294967296 ^ (i+1)*b / 4294967296 ^ (i+k) % 4294967296=(mc (a % 4294967296 ^ i*b / 4294967296 ^ i) (a / 4294967296 ^ i % 4294967296) b k+(a % 4294967296 ^ i*b / 4294967296 ^ (i+k) % 4294967296+a / 4294967296 ^ i % 4294967296*(b / 4294967296 ^ k % 4294967296))) % 4294967296:=by
 rw [mb,pp_div,vz,mb]
theorem pp_carry (a b i k:Nat):mc (a % 4294967296 ^ i*b / 4294967296 ^ i) (a / 4294967296 ^ i % 4294967296) b (k+1)=(mc (a % 4294967296 ^ i*b / 4294967296 ^ i) (a / 4294967296 ^ i % 4294967296) b k+(a % 4294967296 ^ i*b / 4294967296 ^ (i+k) % 4294967296+a / 4294967296 ^ i % 4294967296*(b / 4294967296 ^ k % 4294967296))) / 4294967296:=by
 rw [yJ,mb]
theorem pp_last {a b i n:Nat} (hb:b < 4294967296 ^ n):mc (a % 4294967296 ^ i*b / 4294967296 ^ i) (a / 4294967296 ^ i % 4294967296) b n=a % 4294967296 ^ (i+1)*b / 4294967296 ^ (i+n) % 4294967296:=by
 have hd:a / 4294967296 ^ i % 4294967296 < 4294967296:=Nat.mod_lt _ (by decide)
 have h1:a % 4294967296 ^ i*b / 4294967296 ^ i < 4294967296 ^ n:=by
  rw [Nat.div_lt_iff_lt_mul (i6 i),← Nat.pow_add,Nat.add_comm n i]; exact pp_lt hb
 have h2:=mc_lt (p:=a % 4294967296 ^ i*b / 4294967296 ^ i) (b:=b) (k:=n) hd
 rw [yK h1 hb] at h2 ⊢
 rw [mb,pp_div,Nat.mod_eq_of_lt h2]
theorem ow {x y:Nat} (hx:x < 4294967296) (hy:y < 4294967296):x*y≤18446744065119617025:=Nat.mul_le_mul (show x≤4294967295 by omega) (show y≤4294967295 by omega)
end Go.Sx
namespace Go.Sx
open Go Go.RowKit
section
variable {P:Program} {w0:World} {N:Nat} {F:List (Nat×Value)} {L:List Asn} {a:Act} {w:World} {ops:Array Oper} {Q:Exit→Act→World→Prop} {rest:List Oper}
 {d:Nat} {op:Op} {ty:TypeId} {pos:String} {aft:Array Edge}
theorem s_slice2 {t e:TypeId} {bytes:Nat} {x y:Operand} {u v:Int} (hT:SlT P t e 1 bytes [.int .i64 0]) (hx:ev F x=some (.int .i64 u)) (hy:ev F y=some (.int .i64 v)) :
 Step P w0 F [] (.buildSlice t 2 #[(0,x),(1,y)]) (fun s=>NN s 2) (fun s=>[Asn.row e s [u,v]]):=by
 intro o a w U K Q ho ha hb hs k
 obtain ⟨ht,i,z,hi,hz,hzc,hsz,hby,hzl,hn,_⟩:=hT
 unfold Oper.wp
 have hz':z.cells=#[.int .i64 0]:=by rw [← Array.toArray_toList (xs:=z.cells),hzc]
 have hf:Instr.fill (fun i=>some (i*1,1)) ((Array.range (2*1)).map fun j=>(#[Value.int .i64 0])[j % (#[Value.int .i64 0]).size]!) [(0,.int .i64 u),(1,.int .i64 v)]=some #[.int .i64 u,.int .i64 v]:=by
  have h0:((Array.range (2*1)).map fun j=>(#[Value.int .i64 0])[j % (#[Value.int .i64 0]).size]!)=[Value.int .i64 0,Value.int .i64 0].toArray:=by
   apply Array.ext
   · simp
   · intro i h1 h2
     have:i=0∨i=1:=by simp at h2; omega
     rcases this with rfl | rfl <;> simp
  rw [h0]
  exact ot _ [(0,.int .i64 u),(1,.int .i64 v)] [.int .i64 0,.int .i64 0] [.int .i64 u,.int .i64 v] rfl
 have hr:(execOp a.eval o).run P w=.ok (.value (.slice (some ⟨w.heap.size,0,none⟩) 2 2)) (w.alloc (.cells #[.int .i64 u,.int .i64 v] e)):=by
  have n1:¬ (2 ^ 24 < 2*1):=by omega
  have n2:¬ (2*1=0):=by omega
  simp only [execOp,ho,Instr.buildSlice,Sem.run_bind,run_underlying ht,Result.andThen_ok,sizeOf,typeInfo,run_program,hi,Sem.run_pure,hsz,gt_iff_lt,n1,n2,if_false,zeroValue,hz,hz',List.map_toArray,List.map_cons,List.map_nil,ha x _ hx,ha y _ hy,hf,newRow,run_newObj]
  rfl
 rw [hr]
 refine k _ _ (fun k=>k=w.heap.size) ⟨_,_,_,rfl⟩ ((jl w _).weak fun _ h=>h.elim) ⟨fun k=>k=w.heap.size,fun _=>False,fun k=>by simp,fun _ _=>id,fun k hk=>by simp only [hk,World.size_alloc]; have:=hb.size; omega,?_,fun _=>id⟩
 refine ⟨⟨by rw [bV],.inr ⟨w.heap.size,2,#[.int .i64 u,.int .i64 v],rfl,Nat.zero_le _,?_,by simp,by simp [maxLen],rfl,rfl⟩⟩,fun k=>?_⟩
 · show (w.heap.push _)[w.heap.size]?=_; simp
 · simp [Value.ownBlock,eq_comm]
end
def or2 (u v:Int):Int:=if u=0 then v else u
theorem two_get {u v:Int} {i:Nat} (h:i < 2):[u,v][i]?=some (if i=0 then u else v):=by
 have:i=0∨i=1:=by omega
 rcases this with rfl | rfl <;> rfl
def beV:List UInt8→Nat
 | []=>0
 | x::l=>x.toNat*256 ^ l.length+beV l
theorem aak:∀ l:List UInt8,beV l < 256 ^ l.length
 | []=>by decide
 | x::l=>by
  have h1:=aak l
  have h2:x.toNat < 256:=x.toNat_lt
  have h3:(x.toNat+1)*256 ^ l.length≤256*256 ^ l.length:=Nat.mul_le_mul_right _ h2
  rw [Nat.add_mul] at h3
  simp only [beV,List.length_cons,Nat.pow_succ]
  omega
theorem we (x:UInt8):∀ l:List UInt8,beV (l++[x])=beV l*256+x.toNat
 | []=>by simp [beV]
 | y::l=>by
  simp only [List.cons_append,beV,List.length_append,List.length_cons,List.length_nil,we x l,Nat.pow_succ,Nat.zero_add,Nat.add_mul,Nat.mul_assoc,Nat.pow_zero,Nat.one_mul]
  omega
theorem aaj:∀ l:List UInt8,beV l.reverse=sZ l
 | []=>rfl
 | x::l=>by rw [List.reverse_cons,we,aaj l,sZ]; omega
theorem qk:∀ (l m:List UInt8),l.length=m.length→Lib.compareBytes l m=if beV l < beV m then -1 else if beV l=beV m then 0 else 1
 | [],[],_=>rfl
 | [],_::_,h=>by simp at h
 | _::_,[],h=>by simp at h
 | x::l,y::m,h=>by
  have hl:l.length=m.length:=by simpa using h
  have ih:=qk l m hl
  have h1:=aak l
  have h2:=aak m
  simp only [Lib.compareBytes,beV,hl]
  rw [hl] at h1
  have hp:=Nat.pow_pos (n:=m.length) (show 0 < 256 by decide)
  generalize 256 ^ m.length=p at *
  by_cases e1:x < y
  · rw [if_pos e1]
    have h3:(x.toNat+1)*p≤y.toNat*p:=Nat.mul_le_mul_right _ (UInt8.lt_iff_toNat_lt.1 e1)
    rw [Nat.add_mul] at h3
    rw [if_pos (by omega)]
  · rw [if_neg e1]
    by_cases e2:y < x
    · rw [if_pos e2]
      have h3:(y.toNat+1)*p≤x.toNat*p:=Nat.mul_le_mul_right _ (UInt8.lt_iff_toNat_lt.1 e2)
      rw [Nat.add_mul] at h3
      rw [if_neg (by omega),if_neg (by omega)]
    · rw [if_neg e2,ih]
      have e3:x.toNat=y.toNat:=by
       have h3:¬ x.toNat < y.toNat:=fun h=>e1 (UInt8.lt_iff_toNat_lt.2 h)
       have h4:¬ y.toNat < x.toNat:=fun h=>e2 (UInt8.lt_iff_toNat_lt.2 h)
       omega
      rw [e3]
      simp only [Nat.add_lt_add_iff_left,Nat.add_left_cancel_iff]
theorem beV_bs (a:Nat):beV (bs a).data.toList=a:=by rw [uU,aaj,rG]
theorem zU (a b:Nat):or2 (if (bs a).size < (bs b).size then -1 else if (bs a).size>(bs b).size then 1 else 0) (Lib.compareBytes (bs a).data.toList (bs b).data.toList)=bn a b:=by
 have hi:bn a b=if a < b then -1 else if a=b then 0 else 1:=by
  unfold bn
  rw [gk]
  by_cases h:a < b
  · simp [h]
  · simp only [h,decide_false,cond_false,if_false]
    by_cases e:a=b
    · subst e; simp
    · have:Nat.beq a b=false:=by
       cases hb:Nat.beq a b with
       | true=>exact (e (Nat.eq_of_beq_eq_true hb)).elim
       | false=>rfl
      rw [this]; simp [e]
 rw [hi,fm,fm]
 by_cases h1:(le a).length < (le b).length
 · have:a < b:=by
    rcases Nat.lt_or_ge a b with h | h
    · exact h
    · have:=uC h; omega
   simp [h1,or2,this]
 · by_cases h2:(le b).length < (le a).length
   · have:b < a:=by
      rcases Nat.lt_or_ge b a with h | h
      · exact h
      · have:=uC h; omega
     have h3:¬ a < b:=by omega
     have h4:¬ a=b:=by omega
     simp [h1,or2,h2,h3,h4]
   · rw [qk _ _ (by rw [uU,uU]; simp; omega),beV_bs,beV_bs]
     simp [h1,h2,or2]
end Go.Sx
namespace Go.Sx
open Go Go.RowKit
theorem oR (X j:Nat):X / 4294967296 ^ j*4294967296 ^ j+X % 4294967296 ^ j=X:=by have:=Nat.div_add_mod X (4294967296 ^ j); rw [Nat.mul_comm]; exact this
theorem kJ (a b:Nat):4294967296 ^ (a+b)=4294967296 ^ a*4294967296 ^ b:=Nat.pow_add ..
theorem xJ {X m:Nat} (h:X < 4294967296 ^ (m+2)):X / 4294967296 ^ m=(X / 4294967296 ^ (m+1) % 4294967296)*4294967296+X / 4294967296 ^ m % 4294967296:=by
 have h1:X / 4294967296 ^ (m+1) < 4294967296:=by
  rw [Nat.div_lt_iff_lt_mul (i6 _),Nat.mul_comm,← Nat.pow_succ]; exact h
 rw [Nat.mod_eq_of_lt h1,Nat.pow_succ,← Nat.div_div_eq_div_mul]
 omega
theorem wU {U Y q g r hi v1 v2 u0 P:Nat} (hq:q=U / Y) (hY:0 < Y) (hqB:q < 4294967296) (hP:0 < P) (hU:U < (hi*4294967296+u0+1)*P) (hYl:(v1*4294967296+v2)*P≤Y) (hg:g*v1+r=hi) (hle:q≤g) (hc:4294967296≤g∨r*4294967296+u0 < g*v2):q≤g - 1∧1≤g:=by
 have h0:q≠g:=by
  intro e
  subst e
  rcases hc with hc | hc
  · omega
  · 
   have h1:hi*4294967296+u0+1≤q*(v1*4294967296+v2):=by
    rw [Nat.mul_add,← Nat.mul_assoc,← hg,Nat.add_mul]
    omega
   have h2:(hi*4294967296+u0+1)*P≤q*Y:=by
    calc (hi*4294967296+u0+1)*P≤q*(v1*4294967296+v2)*P:=Nat.mul_le_mul_right _ h1
     _=q*((v1*4294967296+v2)*P):=Nat.mul_assoc ..
     _≤q*Y:=Nat.mul_le_mul_left _ hYl
   have h3:q*Y≤U:=by rw [hq]; exact Nat.div_mul_le_self U Y
   omega
 omega
theorem wV {U Y q g r hi v1 v2 u0 P:Nat} (hq:q=U / Y) (hY:0 < Y) (hU:(hi*4294967296+u0)*P≤U) (hYu:Y < (v1*4294967296+v2+1)*P) (hg:g*v1+r=hi) (hgB:g < 4294967296) (hYP:4294967296*P≤Y) (hv2:v2 < 4294967296)
 (hc:g*v2≤r*4294967296+u0):g≤q+1:=by
 have h1:g*(v1*4294967296+v2)≤hi*4294967296+u0:=by
  rw [Nat.mul_add,← Nat.mul_assoc,← hg,Nat.add_mul]
  omega
 have h2:g*(v1*4294967296+v2)*P≤U:=Nat.le_trans (Nat.mul_le_mul_right _ h1) hU
 have h3:g*Y≤g*(v1*4294967296+v2)*P+g*P:=by
  have:=Nat.mul_le_mul_left g (Nat.le_of_lt hYu)
  calc g*Y≤g*((v1*4294967296+v2+1)*P):=this
   _=g*(v1*4294967296+v2)*P+g*P:=by rw [Nat.add_mul _ 1 P,Nat.one_mul,Nat.mul_add,Nat.mul_assoc]
 have h4:g*P≤4294967296*P:=Nat.mul_le_mul_right _ (Nat.le_of_lt hgB)
 have h5:g*Y≤U+Y:=by omega
 have h6:U < (q+1)*Y:=by rw [hq]; have:=Nat.div_add_mod U Y; have h7:=Nat.mod_lt U hY; rw [Nat.add_mul,Nat.mul_comm]; omega
 have h7:g*Y < (q+2)*Y:=by rw [Nat.add_mul] at h6 ⊢; omega
 have:=Nat.lt_of_mul_lt_mul_right h7
 omega
end Go.Sx
namespace Go.Sx
open Go Go.RowKit
theorem ug {D l j m:Nat} (h:l < 4294967296 ^ j):(D*4294967296 ^ j+l) / 4294967296 ^ (j+m)=D / 4294967296 ^ m:=by
 rw [mb,Nat.mul_comm,Nat.mul_add_div (i6 j),Nat.div_eq_of_lt h,Nat.add_zero]
theorem win_mod {D l j m:Nat} (h:l < 4294967296 ^ j):(D*4294967296 ^ j+l) % 4294967296 ^ (j+m)=D % 4294967296 ^ m*4294967296 ^ j+l:=by
 have h1:=oR (D*4294967296 ^ j+l) (j+m)
 rw [ug h,kJ] at h1
 have h2:=oR D m
 rw [kJ]
 have h3:D*4294967296 ^ j=D / 4294967296 ^ m*(4294967296 ^ j*4294967296 ^ m)+D % 4294967296 ^ m*4294967296 ^ j:=by
  conv=>lhs; rw [← h2,Nat.add_mul]
  rw [Nat.mul_assoc,Nat.mul_comm (4294967296 ^ m)]
 omega
theorem sB {D l j X:Nat} (h:l=X % 4294967296 ^ j):mx X j (D*4294967296 ^ j+l)=X:=by
 unfold mx
 subst h
 rw [Nat.mul_comm D,Nat.mul_add_mod,Nat.mod_mod,oR]
theorem xB {D l j m X:Nat} (hX:X < 4294967296 ^ (j+m)) (h:l < 4294967296 ^ j):mx X (j+m) (D*4294967296 ^ j+l)=D % 4294967296 ^ m*4294967296 ^ j+l:=by
 unfold mx
 rw [Nat.div_eq_of_lt hX,win_mod h]; simp
theorem aaq {U n i:Nat} (h:i≤n):(U+4294967296 ^ (n+1)) / 4294967296 ^ i % 4294967296=U / 4294967296 ^ i % 4294967296:=by
 obtain ⟨c,rfl⟩:∃ c,n=i+c:=⟨n - i,by omega⟩
 rw [show i+c+1=(c+1)+i by omega,kJ,Nat.add_mul_div_right _ _ (i6 i),Nat.pow_succ,Nat.add_mul_mod_self_right]
structure DS (X Y n j:Nat):Prop where
 n2:2≤n
 hX:X < Y*4294967296 ^ (j+1)
 hY:Y < 4294967296 ^ n
 hh:4294967296 ^ n≤2*Y
namespace DS
variable {X Y n j:Nat} (h:DS X Y n j)
include h
theorem pos:0 < Y:=by have:=h.hh; have:=i6 n; omega
theorem hXn:X < 4294967296 ^ (j+n+1):=by
 have h1:=h.hX
 have h2:Y*4294967296 ^ (j+1)≤4294967296 ^ n*4294967296 ^ (j+1):=Nat.mul_le_mul_right _ (Nat.le_of_lt h.hY)
 rw [show j+n+1=n+(j+1) by omega,kJ]
 omega
theorem hU:X / 4294967296 ^ j < Y*4294967296:=by
 have h1:=h.hX
 have e:Y*4294967296 ^ (j+1)=Y*4294967296*4294967296 ^ j:=by rw [Nat.pow_succ,Nat.mul_comm (4294967296 ^ j) 4294967296,Nat.mul_assoc]
 rw [e] at h1
 exact (Nat.div_lt_iff_lt_mul (i6 j)).2 h1
theorem hUn:X / 4294967296 ^ j < 4294967296 ^ (n+1):=by
 have h1:=h.hU
 have h2:Y*4294967296≤4294967296 ^ n*4294967296:=Nat.mul_le_mul_right _ (Nat.le_of_lt h.hY)
 rw [Nat.pow_succ]; exact Nat.lt_of_lt_of_le h1 h2
theorem q_lt:X / 4294967296 ^ j / Y < 4294967296:=by
 rw [Nat.div_lt_iff_lt_mul h.pos,Nat.mul_comm]; exact h.hU
theorem v1_hi:2147483648≤Y / 4294967296 ^ (n - 1):=by
 have hn:=h.n2
 rw [Nat.le_div_iff_mul_le (i6 _)]
 have h1:=h.hh
 rw [show n=(n - 1)+1 by omega,Nat.pow_succ] at h1
 omega
theorem v1_lt:Y / 4294967296 ^ (n - 1) < 4294967296:=by
 have hn:=h.n2
 rw [Nat.div_lt_iff_lt_mul (i6 _),Nat.mul_comm,← Nat.pow_succ,show (n - 1).succ=n by omega]
 exact h.hY
theorem v1_dig:Y / 4294967296 ^ (n - 1) % 4294967296=Y / 4294967296 ^ (n - 1):=Nat.mod_eq_of_lt h.v1_lt
theorem Ytwo:Y / 4294967296 ^ (n - 2)=Y / 4294967296 ^ (n - 1)*4294967296+Y / 4294967296 ^ (n - 2) % 4294967296:=by
 have hn:=h.n2
 have:=xJ (X:=Y) (m:=n - 2) (by rw [show n - 2+2=n by omega]; exact h.hY)
 rw [show n - 2+1=n - 1 by omega,h.v1_dig] at this
 exact this
theorem hi_two:X / 4294967296 ^ (j+n - 1)=X / 4294967296 ^ (j+n) % 4294967296*4294967296+X / 4294967296 ^ (j+n - 1) % 4294967296:=by
 have hn:=h.n2
 have:=xJ (X:=X) (m:=j+n - 1) (by rw [show j+n - 1+2=j+n+1 by omega]; exact h.hXn)
 rwa [show j+n - 1+1=j+n by omega] at this
theorem U_hi:X / 4294967296 ^ (j+n - 1)=X / 4294967296 ^ j / 4294967296 ^ (n - 1):=by
 have hn:=h.n2
 rw [← mb,show j+(n - 1)=j+n - 1 by omega]
theorem U3:X / 4294967296 ^ j / 4294967296 ^ (n - 2)=X / 4294967296 ^ (j+n - 1)*4294967296+X / 4294967296 ^ (j+n - 2) % 4294967296:=by
 have hn:=h.n2
 have e1:X / 4294967296 ^ j / 4294967296 ^ (n - 2)=X / 4294967296 ^ (j+n - 2):=by rw [← mb,show j+(n - 2)=j+n - 2 by omega]
 have e2:X / 4294967296 ^ (j+n - 1)=X / 4294967296 ^ (j+n - 2) / 4294967296:=by
  rw [show j+n - 1=(j+n - 2)+1 by omega,Nat.pow_succ,Nat.div_div_eq_div_mul]
 rw [e1,e2]; omega
theorem hi_lt:X / 4294967296 ^ (j+n - 1) < (Y / 4294967296 ^ (n - 1)+1)*4294967296:=by
 have hn:=h.n2
 rw [h.U_hi,Nat.div_lt_iff_lt_mul (i6 _)]
 have h1:=h.hU
 have h2:Y < (Y / 4294967296 ^ (n - 1)+1)*4294967296 ^ (n - 1):=by
  have:=oR Y (n - 1)
  have:=Nat.mod_lt Y (i6 (n - 1))
  rw [Nat.add_mul]; omega
 have h3:=Nat.mul_le_mul_right 4294967296 (Nat.le_of_lt h2)
 rw [Nat.mul_assoc] at h3 ⊢
 rw [Nat.mul_comm 4294967296]
 omega
theorem guess0:X / 4294967296 ^ j / Y≤X / 4294967296 ^ (j+n - 1) / (Y / 4294967296 ^ (n - 1)):=by
 have hv:=h.v1_hi
 rw [Nat.le_div_iff_mul_le (by omega),h.U_hi,Nat.le_div_iff_mul_le (i6 _),Nat.mul_assoc]
 calc X / 4294967296 ^ j / Y*(Y / 4294967296 ^ (n - 1)*4294967296 ^ (n - 1))≤X / 4294967296 ^ j / Y*Y:=Nat.mul_le_mul_left _ (Nat.div_mul_le_self _ _)
  _≤X / 4294967296 ^ j:=Nat.div_mul_le_self _ _
theorem step {g r:Nat} (hg:g*(Y / 4294967296 ^ (n - 1))+r=X / 4294967296 ^ (j+n - 1)) (hle:X / 4294967296 ^ j / Y≤g) (hc:4294967296≤g∨r*4294967296+X / 4294967296 ^ (j+n - 2) % 4294967296 < g*(Y / 4294967296 ^ (n - 2) % 4294967296)) :
 X / 4294967296 ^ j / Y≤g - 1∧1≤g∧(g - 1)*(Y / 4294967296 ^ (n - 1))+(r+Y / 4294967296 ^ (n - 1))=X / 4294967296 ^ (j+n - 1):=by
 have h1:=wU (P:=4294967296 ^ (n - 2)) (U:=X / 4294967296 ^ j) rfl h.pos h.q_lt (i6 _) (by
  rw [← h.U3]
  have:=oR (X / 4294967296 ^ j) (n - 2)
  have:=Nat.mod_lt (X / 4294967296 ^ j) (i6 (n - 2))
  rw [Nat.add_mul]; omega) (by rw [← h.Ytwo]; exact Nat.div_mul_le_self _ _) hg hle hc
 refine ⟨h1.1,h1.2,?_⟩
 obtain ⟨g',rfl⟩:∃ g',g=g'+1:=⟨g - 1,by omega⟩
 rw [Nat.add_mul] at hg
 simp only [Nat.add_sub_cancel]
 omega
theorem done {g r:Nat} (hg:g*(Y / 4294967296 ^ (n - 1))+r=X / 4294967296 ^ (j+n - 1)) (hc:(g < 4294967296∧g*(Y / 4294967296 ^ (n - 2) % 4294967296)≤r*4294967296+X / 4294967296 ^ (j+n - 2) % 4294967296)∨4294967296≤r):g≤X / 4294967296 ^ j / Y+1∧g < 4294967296:=by
 have hn:=h.n2
 have hv2:Y / 4294967296 ^ (n - 2) % 4294967296 < 4294967296:=Nat.mod_lt _ (by decide)
 have hgB:g < 4294967296:=by
  rcases hc with hc | hc
  · exact hc.1
  · have h1:=h.hi_lt
    have h2:g*(Y / 4294967296 ^ (n - 1)) < 4294967296*(Y / 4294967296 ^ (n - 1)):=by rw [Nat.add_mul] at h1; rw [Nat.mul_comm 4294967296]; omega
    exact Nat.lt_of_mul_lt_mul_right h2
 have hc':g*(Y / 4294967296 ^ (n - 2) % 4294967296)≤r*4294967296+X / 4294967296 ^ (j+n - 2) % 4294967296:=by
  rcases hc with hc | hc
  · exact hc.2
  · have h1:g*(Y / 4294967296 ^ (n - 2) % 4294967296)≤4294967296*4294967296:=Nat.mul_le_mul (Nat.le_of_lt hgB) (Nat.le_of_lt hv2)
    have h2:4294967296*4294967296≤r*4294967296:=Nat.mul_le_mul_right _ hc
    omega
 refine ⟨wV (P:=4294967296 ^ (n - 2)) (U:=X / 4294967296 ^ j) rfl h.pos ?_ ?_ hg hgB ?_ hv2 hc',hgB⟩
 · rw [← h.U3]; exact Nat.div_mul_le_self _ _
 · rw [← h.Ytwo]
   have:=oR Y (n - 2)
   have:=Nat.mod_lt Y (i6 (n - 2))
   rw [Nat.add_mul]; omega
 · have h1:=h.hh
   rw [show n=(n - 2)+1+1 by omega,Nat.pow_succ,Nat.pow_succ] at h1
   omega
theorem P_lt {g:Nat} (hgB:g < 4294967296):g*Y < 4294967296 ^ (n+1):=by
 have h1:=h.hY
 rw [Nat.pow_succ,Nat.mul_comm]
 calc Y*g≤Y*4294967296:=Nat.mul_le_mul_left _ (Nat.le_of_lt hgB)
  _ < 4294967296 ^ n*4294967296:=Nat.mul_lt_mul_of_pos_right h1 (by decide)
theorem P_le {g:Nat} (hgB:g < 4294967296):g*Y≤X / 4294967296 ^ j+4294967296 ^ (n+1):=Nat.le_trans (Nat.le_of_lt (h.P_lt hgB)) (Nat.le_add_left _ _)
theorem sub_step {g i:Nat} (hgB:g < 4294967296) (hi:i≤n):bw (X / 4294967296 ^ j+4294967296 ^ (n+1)) (g*Y) (i+1)=(if X / 4294967296 ^ (j+i) % 4294967296 < bw (X / 4294967296 ^ j+4294967296 ^ (n+1)) (g*Y) i+g*Y / 4294967296 ^ i % 4294967296 then 1 else 0) ∧
 (X / 4294967296 ^ j+4294967296 ^ (n+1) - g*Y) / 4294967296 ^ i % 4294967296=(if X / 4294967296 ^ (j+i) % 4294967296 < bw (X / 4294967296 ^ j+4294967296 ^ (n+1)) (g*Y) i+g*Y / 4294967296 ^ i % 4294967296 then X / 4294967296 ^ (j+i) % 4294967296+4294967296 - bw (X / 4294967296 ^ j+4294967296 ^ (n+1)) (g*Y) i - g*Y / 4294967296 ^ i % 4294967296 else X / 4294967296 ^ (j+i) % 4294967296 - bw (X / 4294967296 ^ j+4294967296 ^ (n+1)) (g*Y) i - g*Y / 4294967296 ^ i % 4294967296) :=
 aac (by rw [aaq hi,← mb]) rfl (h.P_le hgB)
theorem prod_step (g i:Nat):g*Y / 4294967296 ^ i % 4294967296=(mc 0 g Y i+g*(Y / 4294967296 ^ i % 4294967296)) % 4294967296∧mc 0 g Y (i+1)=(mc 0 g Y i+g*(Y / 4294967296 ^ i % 4294967296)) / 4294967296:=by
 have _h:=h
 have h1:=vz 0 g Y i
 have h2:=yJ 0 g Y i
 simp only [Nat.zero_add,Nat.zero_div,Nat.zero_mod] at h1 h2
 exact ⟨h1,h2⟩
theorem prod_top {g:Nat} (hgB:g < 4294967296):mc 0 g Y n=g*Y / 4294967296 ^ n % 4294967296:=by
 have h1:=yK (p:=0) (d:=g) (i6 n) h.hY
 have h2:=mc_lt (p:=0) (b:=Y) (k:=n) hgB
 rw [h1,Nat.zero_add] at h2 ⊢
 exact (Nat.mod_eq_of_lt h2).symm
theorem top_sign {g:Nat} (hgB:g < 4294967296):bw (X / 4294967296 ^ j+4294967296 ^ (n+1)) (g*Y) (n+1)=if X / 4294967296 ^ j < g*Y then 1 else 0:=by
 unfold bw
 rw [Nat.add_mod_right,Nat.mod_eq_of_lt h.hUn,Nat.mod_eq_of_lt (h.P_lt hgB)]
theorem guess_pos {g:Nat} (hle:X / 4294967296 ^ j / Y≤g) (hs:¬ X / 4294967296 ^ j < g*Y):g=X / 4294967296 ^ j / Y :=
 Nat.le_antisymm ((Nat.le_div_iff_mul_le h.pos).2 (by omega)) hle
theorem guess_neg {g:Nat} (hle:g≤X / 4294967296 ^ j / Y+1) (hs:X / 4294967296 ^ j < g*Y):g=X / 4294967296 ^ j / Y+1:=by
 have _h:=h
 have:¬ g≤X / 4294967296 ^ j / Y:=fun hle=>by
  have:=Nat.mul_le_mul_right Y hle
  have:=Nat.div_mul_le_self (X / 4294967296 ^ j) Y
  omega
 omega
theorem diff_pos {g:Nat} (hgB:g < 4294967296) (hle:X / 4294967296 ^ j / Y≤g) (hs:¬ X / 4294967296 ^ j < g*Y):(X / 4294967296 ^ j+4294967296 ^ (n+1) - g*Y) % 4294967296 ^ (n+1)=X / 4294967296 ^ j % Y:=by
 have h1:=h.guess_pos hle hs
 have h2:=Nat.div_add_mod (X / 4294967296 ^ j) Y
 have h3:=h.hUn
 have h4:g*Y=Y*(X / 4294967296 ^ j / Y):=by rw [h1,Nat.mul_comm]
 rw [show X / 4294967296 ^ j+4294967296 ^ (n+1) - g*Y=X / 4294967296 ^ j % Y+4294967296 ^ (n+1) by omega,Nat.add_mod_right]
 exact Nat.mod_eq_of_lt (by omega)
theorem diff_neg {g:Nat} (hle:g≤X / 4294967296 ^ j / Y+1) (hs:X / 4294967296 ^ j < g*Y):(X / 4294967296 ^ j+4294967296 ^ (n+1) - g*Y) % 4294967296 ^ (n+1)+Y=X / 4294967296 ^ j % Y+4294967296 ^ (n+1)∧((X / 4294967296 ^ j+4294967296 ^ (n+1) - g*Y) % 4294967296 ^ (n+1)+Y) % 4294967296 ^ (n+1)=X / 4294967296 ^ j % Y:=by
 have h1:=h.guess_neg hle hs
 have h2:=Nat.div_add_mod (X / 4294967296 ^ j) Y
 have h3:=Nat.mod_lt (X / 4294967296 ^ j) h.pos
 have h5:=h.hY
 have h6:=i6 n
 have h7:4294967296 ^ n < 4294967296 ^ (n+1):=Nat.pow_lt_pow_right (by decide) (by omega)
 have h4:g*Y=Y*(X / 4294967296 ^ j / Y)+Y:=by rw [h1,Nat.add_mul,Nat.one_mul,Nat.mul_comm]
 have h8:(X / 4294967296 ^ j+4294967296 ^ (n+1) - g*Y) % 4294967296 ^ (n+1)=X / 4294967296 ^ j+4294967296 ^ (n+1) - g*Y:=Nat.mod_eq_of_lt (by omega)
 have h9:X / 4294967296 ^ j+4294967296 ^ (n+1) - g*Y+Y=X / 4294967296 ^ j % Y+4294967296 ^ (n+1):=by omega
 rw [h8,h9]
 refine ⟨rfl,?_⟩
 rw [Nat.add_mod_right]
 exact Nat.mod_eq_of_lt (by omega)
end DS
def qy (X Y j:Nat):Nat:=X / 4294967296 ^ j % Y*4294967296 ^ j+X % 4294967296 ^ j
theorem nextX_lt {X Y j:Nat} (hY:0 < Y):qy X Y j < Y*4294967296 ^ j:=by
 have h1:=Nat.mod_lt (X / 4294967296 ^ j) hY
 have h2:=Nat.mod_lt X (i6 j)
 have h3:=Nat.mul_le_mul_right (4294967296 ^ j) (show X / 4294967296 ^ j % Y+1≤Y from h1)
 rw [Nat.add_mul] at h3
 unfold qy; omega
theorem yC (X Y j q:Nat):qy X Y j+Y*(q+X / 4294967296 ^ j / Y*4294967296 ^ j)=X+Y*q:=by
 have h1:=oR X j
 have h2:=Nat.div_add_mod (X / 4294967296 ^ j) Y
 have h3:X / 4294967296 ^ j*4294967296 ^ j=Y*(X / 4294967296 ^ j / Y*4294967296 ^ j)+X / 4294967296 ^ j % Y*4294967296 ^ j:=by
  conv=>lhs; rw [← h2]
  rw [Nat.add_mul,Nat.mul_assoc]
 unfold qy
 rw [Nat.mul_add]
 omega
theorem yB {q j c:Nat} (h:q % 4294967296 ^ (j+1)=0):(q+c*4294967296 ^ j) % 4294967296 ^ j=0:=by
 rw [Nat.add_mul_mod_self_right]
 rw [Nat.pow_succ,Nat.mod_mul] at h
 omega
theorem q_digit {q j:Nat} (h:q % 4294967296 ^ (j+1)=0):q / 4294967296 ^ j % 4294967296=0:=by rw [qh,h,Nat.zero_div]
end Go.Sx
namespace Go.Sx
open Go Go.RowKit
theorem vU {n v s q:Nat} (h:v / 4294967296 ^ q % 4294967296=0) (hs:s < 4294967296):(dgs n v).set q s=dgs n (v+s*4294967296 ^ q):=by
 have:=uI (n:=n) (v:=v) (s:=s) (q:=q) (by omega)
 rwa [h,Nat.zero_add] at this
theorem si {k:Nat} (a b c:Nat) (hc:c=a*2 ^ k) (ha:b < 2 ^ k) (hb:c < 4294967296) (hb':b < 4294967296):bits .or .u32 (b:Int) ((c:Nat):Int)=((b+c:Nat):Int):=by
 subst hc; exact nL a b ha hb hb'
theorem yN {d s:Nat} (hs:s≤32):d*2 ^ s % 4294967296=d % 2 ^ (32 - s)*2 ^ s:=by
 have:4294967296=2 ^ (32 - s)*2 ^ s:=by rw [← Nat.pow_add,show 32 - s+s=32 by omega]
 rw [this,Nat.mul_mod_mul_right]
def shc (v s i:Nat):Nat:=v % 4294967296 ^ i*2 ^ s / 4294967296 ^ i
theorem xY (v s i:Nat):shc v s i < 2 ^ s:=by
 unfold shc
 rw [Nat.div_lt_iff_lt_mul (i6 i),Nat.mul_comm]
 exact Nat.mul_lt_mul_of_pos_left (Nat.mod_lt _ (i6 i)) (Nat.pow_pos (by decide))
theorem uk {v s i d:Nat} (hs:s≤32):shc v s i+d*2 ^ s % 4294967296 < 4294967296:=by
 have h1:=xY v s i
 rw [yN hs]
 have h2:d % 2 ^ (32 - s)+1≤2 ^ (32 - s):=Nat.mod_lt _ (Nat.pow_pos (by decide))
 have h3:=Nat.mul_le_mul_right (2 ^ s) h2
 rw [Nat.add_mul,← Nat.pow_add,show 32 - s+s=32 by omega] at h3
 have:2 ^ 32=4294967296:=rfl
 omega
theorem rk {v s i:Nat} (hs:s≤32):v % 4294967296 ^ i*2 ^ s / 4294967296 ^ i % 4294967296=shc v s i:=by
 have h1:=xY v s i
 have h2:2 ^ s≤2 ^ 32:=Nat.pow_le_pow_right (by decide) hs
 have:2 ^ 32=4294967296:=rfl
 exact Nat.mod_eq_of_lt (show shc v s i < 4294967296 by omega)
theorem sh_get {n v s i:Nat} (hs:s≤32) (hi:i < n):(dgs n (v % 4294967296 ^ i*2 ^ s))[i]?=some (shc v s i):=by rw [d9 hi,rk hs]
theorem sh_or {v s i d:Nat} (hs:s≤32):bits .or .u32 ((shc v s i:Nat):Int) ((d*2 ^ s % 4294967296:Nat):Int)=((shc v s i+d*2 ^ s % 4294967296:Nat):Int):=by
 have h1:=uk (v:=v) (i:=i) (d:=d) hs
 exact si (k:=s) (d % 2 ^ (32 - s)) _ _ (yN hs) (xY v s i) (by omega) (by omega)
theorem sh_word {d s:Nat} (hs:s≤32) (hd:d < 4294967296):d*2 ^ s < 18446744073709551616:=by
 have h2:2 ^ s≤2 ^ 32:=Nat.pow_le_pow_right (by decide) hs
 have h3:2 ^ 32=4294967296:=rfl
 rw [h3] at h2
 have:=Nat.mul_le_mul (show d≤4294967295 by omega) h2
 omega
theorem sh_set1 {n v s i d:Nat} (hs:s≤32):(dgs n (v % 4294967296 ^ i*2 ^ s)).set i (shc v s i+d*2 ^ s % 4294967296)=dgs n (v % 4294967296 ^ i*2 ^ s+d*2 ^ s % 4294967296*4294967296 ^ i):=by
 have:=uI (n:=n) (v:=v % 4294967296 ^ i*2 ^ s) (s:=d*2 ^ s % 4294967296) (q:=i) (by rw [rk hs]; exact uk hs)
 rwa [rk hs] at this
theorem sh_next (v s i:Nat):v % 4294967296 ^ (i+1)*2 ^ s=v % 4294967296 ^ i*2 ^ s+v / 4294967296 ^ i % 4294967296*2 ^ s*4294967296 ^ i:=by
 rw [kb,Nat.add_mul,Nat.mul_right_comm]
theorem sh_zero {v s i:Nat} (hs:s≤32) {d:Nat}:(v % 4294967296 ^ i*2 ^ s+d*2 ^ s % 4294967296*4294967296 ^ i) / 4294967296 ^ (i+1) % 4294967296=0:=by
 rw [Nat.pow_succ,← Nat.div_div_eq_div_mul,Nat.add_mul_div_right _ _ (i6 i)]
 have h1:v % 4294967296 ^ i*2 ^ s / 4294967296 ^ i+d*2 ^ s % 4294967296 < 4294967296:=uk (v:=v) (i:=i) hs
 rw [Nat.div_eq_of_lt h1]
theorem sh_set2 {n v s i:Nat} (hs:s≤32):(dgs n (v % 4294967296 ^ i*2 ^ s+v / 4294967296 ^ i % 4294967296*2 ^ s % 4294967296*4294967296 ^ i)).set (i+1) (v / 4294967296 ^ i % 4294967296*2 ^ s / 4294967296)=dgs n (v % 4294967296 ^ (i+1)*2 ^ s):=by
 have h0:v / 4294967296 ^ i % 4294967296*2 ^ s / 4294967296 < 4294967296:=by
  rw [Nat.div_lt_iff_lt_mul (by decide)]
  have h2:2 ^ s≤2 ^ 32:=Nat.pow_le_pow_right (by decide) hs
  have h3:2 ^ 32=4294967296:=rfl
  rw [h3] at h2
  exact Nat.lt_of_le_of_lt (Nat.mul_le_mul_left _ h2) (Nat.mul_lt_mul_of_pos_right (Nat.mod_lt _ (by decide)) (by decide))
 rw [vU (sh_zero hs) h0,sh_next]
 congr 1
 have h4:=Nat.div_add_mod (v / 4294967296 ^ i % 4294967296*2 ^ s) 4294967296
 have h5:v / 4294967296 ^ i % 4294967296*2 ^ s*4294967296 ^ i=v / 4294967296 ^ i % 4294967296*2 ^ s % 4294967296*4294967296 ^ i+v / 4294967296 ^ i % 4294967296*2 ^ s / 4294967296*4294967296 ^ (i+1):=by
  conv=>lhs; rw [← h4]
  rw [Nat.add_mul,Nat.pow_succ,Nat.add_comm,Nat.mul_comm 4294967296,Nat.mul_assoc (_ / 4294967296),Nat.mul_comm 4294967296 (4294967296 ^ i)]
 omega
theorem xW {X s:Nat} (hs:s≤32) (i:Nat):X / 2 ^ s / 4294967296 ^ i % 4294967296=(X / 4294967296 ^ (i+1) % 4294967296*4294967296+X / 4294967296 ^ i % 4294967296) / 2 ^ s % 4294967296:=by
 have e1:X / 2 ^ s / 4294967296 ^ i=X / 4294967296 ^ i / 2 ^ s:=by rw [Nat.div_div_eq_div_mul,Nat.div_div_eq_div_mul,Nat.mul_comm]
 have e2:X / 4294967296 ^ (i+1)=X / 4294967296 ^ i / 4294967296:=by rw [Nat.pow_succ,Nat.div_div_eq_div_mul]
 rw [e1,e2]
 generalize X / 4294967296 ^ i=T
 have h1:T=T / 4294967296 / 4294967296*(4294967296*2 ^ (32 - s))*2 ^ s+(T / 4294967296 % 4294967296*4294967296+T % 4294967296):=by
  have h3:2 ^ (32 - s)*2 ^ s=4294967296:=by rw [← Nat.pow_add,show 32 - s+s=32 by omega]
  rw [Nat.mul_assoc,Nat.mul_assoc 4294967296,h3]
  omega
 conv=>lhs; rw [h1]
 rw [Nat.add_comm,Nat.add_mul_div_right _ _ (Nat.pow_pos (by decide)),Nat.mul_left_comm,Nat.add_mul_mod_self_left]
theorem uz {n a i t:Nat}:(dgs n (mx a (i+1) t)).set i (a / 4294967296 ^ i % 4294967296)=dgs n (mx a i t):=by
 apply List.ext_getElem?
 intro j
 by_cases hj:j < n
 · rw [d9 hj]
   by_cases e:j=i
   · subst e
     rw [List.getElem?_set_self (by rw [cX]; exact hj),mi (Nat.le_refl _)]
   · rw [List.getElem?_set_ne (Ne.symm e),d9 hj]
     rcases Nat.lt_or_gt_of_ne e with h | h
     · rw [qR h,qR (by omega)]
     · rw [mi (by omega),mi (by omega)]
 · rw [List.getElem?_eq_none (by rw [List.length_set,cX]; omega),List.getElem?_eq_none (by rw [cX]; omega)]
theorem qS {n a i t:Nat} (h:i < n):(dgs n (mx a (i+1) t))[i]?=some (t / 4294967296 ^ i % 4294967296):=by rw [d9 h,qR (by omega)]
theorem wF (T B d:Nat) (hB:0 < B) (hb:0 < d):(T / B % d*B+T % B) / d=T / d % B∧(T / B % d*B+T % B) % d=T % d:=by
 have h1:=Nat.div_add_mod T B
 have h2:=Nat.div_add_mod (T / B) d
 have hr:=Nat.mod_lt (T / B) hb
 have h5:=Nat.mul_le_mul_right B (show T / B % d+1≤d from hr)
 have h6:=Nat.mod_lt T hB
 generalize T % B=m at *
 generalize T / B=Q at *
 generalize Q % d=r at *
 generalize Q / d=q at *
 have h4:r*B+m < B*d:=by
  rw [Nat.add_mul] at h5
  rw [Nat.mul_comm B d]
  omega
 have h3:T=(r*B+m)+q*B*d:=by
  rw [← h1,← h2,Nat.mul_add,Nat.mul_comm B r,← Nat.mul_assoc,Nat.mul_comm (B*d) q,← Nat.mul_assoc]
  omega
 subst h3
 constructor
 · rw [Nat.add_mul_div_right _ _ hb,Nat.add_mul_mod_self_right]
   exact (Nat.mod_eq_of_lt (by rw [Nat.div_lt_iff_lt_mul hb]; exact h4)).symm
 · rw [Nat.add_mul_mod_self_right]
theorem wE {v by' i:Nat} (hb:0 < by'):(v / 4294967296 ^ (i+1) % by'*4294967296+v / 4294967296 ^ i % 4294967296) / by'=v / by' / 4294967296 ^ i % 4294967296∧(v / 4294967296 ^ (i+1) % by'*4294967296+v / 4294967296 ^ i % 4294967296) % by'=v / 4294967296 ^ i % by':=by
 have e2:v / 4294967296 ^ (i+1)=v / 4294967296 ^ i / 4294967296:=by rw [Nat.pow_succ,Nat.div_div_eq_div_mul]
 have e1:v / by' / 4294967296 ^ i=v / 4294967296 ^ i / by':=by rw [Nat.div_div_eq_div_mul,Nat.div_div_eq_div_mul,Nat.mul_comm]
 rw [e1,e2]
 exact wF _ _ _ (by decide) hb
theorem wP {t:Nat} (h0:t≠0) (h:t < 4294967296):Lib.bitLen t≤32∧1≤Lib.bitLen t∧t*2 ^ (32 - Lib.bitLen t) < 4294967296∧2147483648≤t*2 ^ (32 - Lib.bitLen t):=by
 obtain ⟨h1,h2,h3⟩:=Lib.bitLenAux_bounds 64 t (by omega) h0
 change 1≤Lib.bitLen t at h1
 change 2 ^ (Lib.bitLen t - 1)≤t at h2
 change t < 2 ^ Lib.bitLen t at h3
 have h4:Lib.bitLen t≤32:=by
  refine Nat.le_of_not_lt fun hlt=>?_
  have:2 ^ 32≤2 ^ (Lib.bitLen t - 1):=Nat.pow_le_pow_right (by decide) (by omega)
  have h5:2 ^ 32=4294967296:=rfl
  omega
 refine ⟨h4,h1,?_,?_⟩
 · have:t*2 ^ (32 - Lib.bitLen t) < 2 ^ Lib.bitLen t*2 ^ (32 - Lib.bitLen t):=Nat.mul_lt_mul_of_pos_right h3 (Nat.pow_pos (by decide))
   rw [← Nat.pow_add,show Lib.bitLen t+(32 - Lib.bitLen t)=32 by omega] at this
   exact this
 · have:2 ^ (Lib.bitLen t - 1)*2 ^ (32 - Lib.bitLen t)≤t*2 ^ (32 - Lib.bitLen t):=Nat.mul_le_mul_right _ h2
   rw [← Nat.pow_add,show Lib.bitLen t - 1+(32 - Lib.bitLen t)=31 by omega] at this
   exact this
end Go.Sx
namespace Go.Sx
open Go Go.RowKit
section
variable {P:Program} {w0:World} {N:Nat} {F:List (Nat×Value)} {L:List Asn} {a:Act} {w:World} {ops:Array Oper} {Q:Exit→Act→World→Prop} {rest:List Oper}
 {d:Nat} {op:Op} {ty:TypeId} {pos:String} {aft:Array Edge}
def Asn.all (lo:Nat) (L:List Asn):Asn:=⟨fun w f=>Sep lo w L f,fun h hs=>hs.moved h⟩
theorem sep_all {lo:Nat} {A:Asn} {B:List Asn} {U:Fp} (h:Sep lo w (A::B) U):Sep lo w [A,.all lo B] U:=by
 obtain ⟨f,V,hU,hd,hf,hr,hs⟩:=h
 exact ⟨f,V,hU,hd,hf,hr,V,fun _=>False,fun k=>by simp,fun _ _=>id,fun k hk=>hs.range k hk,hs,fun _=>id⟩
theorem all_sep {lo:Nat} {A:Asn} {B:List Asn} {U:Fp} (h:Sep lo w [A,.all lo B] U):Sep lo w (A::B) U:=by
 obtain ⟨f,V,hU,hd,hf,hr,g,W,hV,_,_,hs,hW⟩:=h
 exact ⟨f,V,hU,hd,hf,hr,hs.congr fun k=>by rw [hV k]; exact ⟨.inl,fun h=>h.resolve_right (hW k)⟩⟩
def RetX (w0:World) (v:Value) (L:List Asn):Ending→World→Prop:=fun e w'=>e=.returned v∧Below w0.heap.size w0 w'∧∃ U,Sep w0.heap.size w' L U
theorem St.retX (h:St w0 N F L a w) {v u:Value} (e:v=u):RetX w0 u L (.returned v) w:=⟨by rw [e],h.bel,h.sep⟩
theorem mF {f:FuncId} {fn:Func} {c:Code} {args:List Value} {R:Ending→World→Prop} (hf:P.funcs[f]?=some fn) (hb:fn.body=some c) (hN:args.length+(fn.ntmps - args.length)=N)
 (hbel:Below w0.heap.size w0 w) (hsep:∃ U,Sep w0.heap.size w L U) (h:∀ a,St w0 N (zipF 0 args) L a w→c.wp P (bodyPost P fn R) a w):Calls P f args.toArray w R :=
 calls_of_wp hf hb (h _ (by
  have:=St.init w args fn.ntmps hN (F:=zipF 0 args) fun _ _ hv=>(nA hv).2
  exact ⟨this.size,this.defers,this.regs,hbel,hsep⟩))
theorem clx {f:FuncId} {args:Array Operand} {ats:Array TypeId} {vs:List Value} {v:Value} {A A':Asn} (h:St w0 N F L a w) (i:Nat) (hi:L[i]?=some A) (hc:∀ args w,(callFunc f args).run P w=.ok (.enter f args) w) (ha:evs F args.toList=some vs)
 (ct:∀ w B,Below w0.heap.size w0 w→(∃ U,Sep w0.heap.size w [A,B] U)→Calls P f vs.toArray w (RetX w0 v [A',B])) (hd:Nat.blt d N=true)
 (k:∀ a w,St w0 N ((d,v)::F) (L.set i A') a w→wpList P ops Q rest a w):wpList P ops Q (⟨some d,.call ⟨.value (.func f),args,ats⟩,ty,pos,aft,none⟩::rest) a w :=
 wpList_plain rfl fun K hK=>by
  obtain ⟨U,hU⟩:=h.sep
  obtain ⟨B,hp,hp'⟩:=eZ A' hi
  unfold Oper.wp
  rw [pa hc ha rfl h.agr w]
  refine (ct w (.all w0.heap.size B) h.bel ⟨U,sep_all (hU.perm hp)⟩).mono ?_
  rintro e w' ⟨rfl,hb,V,hV⟩
  exact hK _ _ (k _ _ (h.put hd v hb (U:=V) ((all_sep hV).perm hp')))
end
end Go.Sx
namespace Go.Sx
open Go Go.RowKit
theorem dgs_one {b:Nat} (h:dn b=1):(dgs (dn b) b)[0]?=some b∧b < 4294967296:=by
 have h1:=i5 b
 rw [h,Nat.pow_one] at h1
 refine ⟨?_,h1⟩
 rw [d9 (by omega),Nat.pow_zero,Nat.div_one,Nat.mod_eq_of_lt h1]
theorem zD {a b:Nat} (h:b≤a):dn b≤dn a:=(r6 b (dn a)).2 (Nat.lt_of_le_of_lt h (i5 a))
theorem dn_ge {b:Nat} (h:0 < b):1≤dn b:=by
 refine Nat.pos_of_ne_zero fun e=>?_
 have:=i5 b
 rw [e,Nat.pow_zero] at this
 omega
theorem dn_top {b:Nat} (h:0 < b):4294967296 ^ (dn b - 1)≤b:=by
 refine Nat.le_of_not_lt fun hlt=>?_
 have h1:=(r6 b (dn b - 1)).2 hlt
 have h2:=dn_ge h
 omega
theorem wQ {b:Nat} (h:0 < b) {s:Nat} (hs:s=32 - Lib.bitLen (b / 4294967296 ^ (dn b - 1) % 4294967296)):s≤31∧b*2 ^ s < 4294967296 ^ dn b∧4294967296 ^ dn b≤2*(b*2 ^ s):=by
 have h1:=dn_ge h
 have h2:=dn_top h
 have h3:=i5 b
 rw [show dn b=dn b - 1+1 by omega,Nat.pow_succ] at h3
 have ht:b / 4294967296 ^ (dn b - 1) < 4294967296:=by rw [Nat.div_lt_iff_lt_mul (i6 _),Nat.mul_comm]; exact h3
 have ht0:b / 4294967296 ^ (dn b - 1)≠0:=by have:=Nat.div_pos h2 (i6 (dn b - 1)); omega
 rw [Nat.mod_eq_of_lt ht] at hs
 obtain ⟨g1,g2,g3,g4⟩:=wP ht0 ht
 rw [← hs] at g3 g4
 have h4:=oR b (dn b - 1)
 have h5:=Nat.mod_lt b (i6 (dn b - 1))
 have hp:0 < 2 ^ s:=Nat.pow_pos (by decide)
 have e:4294967296 ^ dn b=4294967296 ^ (dn b - 1)*4294967296:=by rw [← Nat.pow_succ,show (dn b - 1).succ=dn b by omega]
 refine ⟨by omega,?_,?_⟩
 · rw [e]
   have h6:b*2 ^ s < (b / 4294967296 ^ (dn b - 1)+1)*4294967296 ^ (dn b - 1)*2 ^ s:=Nat.mul_lt_mul_of_pos_right (by rw [Nat.add_mul]; omega) hp
   have h7:(b / 4294967296 ^ (dn b - 1)+1)*2 ^ s≤4294967296:=by
    have h8:4294967296=2 ^ (32 - s)*2 ^ s:=by rw [← Nat.pow_add,show 32 - s+s=32 by omega]
    rw [h8] at g3 ⊢
    exact Nat.mul_le_mul_right _ (Nat.lt_of_mul_lt_mul_right g3)
   have h9:=Nat.mul_le_mul_right (4294967296 ^ (dn b - 1)) h7
   rw [Nat.mul_right_comm] at h9
   rw [Nat.mul_comm (4294967296 ^ _)]
   exact Nat.lt_of_lt_of_le h6 h9
 · rw [e]
   have h6:b / 4294967296 ^ (dn b - 1)*2 ^ s*4294967296 ^ (dn b - 1)≤b*2 ^ s:=by
    rw [Nat.mul_right_comm]
    exact Nat.mul_le_mul_right _ (by omega)
   have h7:=Nat.mul_le_mul_right (4294967296 ^ (dn b - 1)) g4
   rw [Nat.mul_comm (4294967296 ^ _)]
   omega
theorem tQ {a b s:Nat} (hle:b≤a) (hs:s≤31) (hh:4294967296 ^ dn b≤2*(b*2 ^ s)):a*2 ^ s < b*2 ^ s*4294967296 ^ (dn a+1 - dn b):=by
 have h1:=i5 a
 have h2:=zD hle
 have h3:2 ^ s≤2 ^ 31:=Nat.pow_le_pow_right (by decide) hs
 have h4:a*2 ^ s < 4294967296 ^ dn a*2 ^ 31:=Nat.lt_of_lt_of_le (Nat.mul_lt_mul_of_pos_right h1 (Nat.pow_pos (by decide))) (Nat.mul_le_mul_left _ h3)
 have h5:=Nat.mul_le_mul_right (4294967296 ^ (dn a+1 - dn b)) hh
 rw [← kJ,show dn b+(dn a+1 - dn b)=dn a+1 by omega,Nat.pow_succ,Nat.mul_assoc 2] at h5
 have h6:(2:Nat) ^ 31=2147483648:=rfl
 rw [h6] at h4
 generalize b*2 ^ s*4294967296 ^ (dn a+1 - dn b)=R at *
 generalize 4294967296 ^ dn a=A at *
 omega
theorem div_end {a b s X Z:Nat} (hb:0 < b) (hX:X < b*2 ^ s) (h:X+b*2 ^ s*Z=a*2 ^ s):Z=a / b∧X / 2 ^ s=a % b:=by
 have hp:0 < 2 ^ s:=Nat.pow_pos (by decide)
 have hq:Z=a*2 ^ s / (b*2 ^ s):=by
  rw [← h,Nat.add_mul_div_left _ _ (Nat.mul_pos hb hp),Nat.div_eq_of_lt hX,Nat.zero_add]
 have hr:X=a*2 ^ s % (b*2 ^ s):=by
  rw [← h,Nat.add_mul_mod_self_left,Nat.mod_eq_of_lt hX]
 rw [Nat.mul_div_mul_right _ _ hp] at hq
 rw [Nat.mul_mod_mul_right] at hr
 exact ⟨hq,by rw [hr,Nat.mul_div_cancel _ hp]⟩
theorem wm {D D' l j:Nat} (h:l < 4294967296 ^ j):mx (D*4294967296 ^ j+l) j (D'*4294967296 ^ j+l)=D*4294967296 ^ j+l :=
 sB (by rw [Nat.mul_comm,Nat.mul_add_mod,Nat.mod_eq_of_lt h])
theorem rj {n D D' l j i:Nat} (h:l < 4294967296 ^ j) (hi:j+i < n):(dgs n (mx (D*4294967296 ^ j+l) (j+i) (D'*4294967296 ^ j+l)))[j+i]?=some (D / 4294967296 ^ i % 4294967296):=by rw [jb hi,ug h]
theorem pp {n D a j i l:Nat} (h:l < 4294967296 ^ j):(dgs n (mx a (j+i) (D*4294967296 ^ j+l))).set (j+i) (D / 4294967296 ^ i % 4294967296)=dgs n (mx a (j+i+1) (D*4294967296 ^ j+l)):=by
 have:=mC (n:=n) (a:=a) (i:=j+i) (t:=D*4294967296 ^ j+l)
 rwa [ug h] at this
theorem win_lt {D l j m:Nat} (hD:D < 4294967296 ^ m) (h:l < 4294967296 ^ j):D*4294967296 ^ j+l < 4294967296 ^ (j+m):=by
 have h1:=Nat.mul_le_mul_right (4294967296 ^ j) (show D+1≤4294967296 ^ m from hD)
 rw [Nat.add_mul] at h1
 rw [kJ,Nat.mul_comm (4294967296 ^ j)]
 omega
theorem DS.y_top {X Y n j:Nat} (h:DS X Y n j):(dgs n Y)[n - 1]?=some (Y / 4294967296 ^ (n - 1)):=by
 have:=h.n2
 rw [d9 (by omega),h.v1_dig]
theorem DS.set_pos {X Y n j g N:Nat} (h:DS X Y n j) (hgB:g < 4294967296) (hle:X / 4294967296 ^ j / Y≤g) (hs:¬ X / 4294967296 ^ j < g*Y):dgs N ((X / 4294967296 ^ j+4294967296 ^ (n+1) - g*Y) % 4294967296 ^ (n+1)*4294967296 ^ j+X % 4294967296 ^ j)=dgs N (qy X Y j):=by
 rw [h.diff_pos hgB hle hs]; rfl
theorem DS.set_neg {X Y n j g N:Nat} (h:DS X Y n j) (hle:g≤X / 4294967296 ^ j / Y+1) (hs:X / 4294967296 ^ j < g*Y) :
 (dgs N (mx ((X / 4294967296 ^ j+4294967296 ^ (n+1) - g*Y) % 4294967296 ^ (n+1)*4294967296 ^ j+X % 4294967296 ^ j) (j+n) (((X / 4294967296 ^ j+4294967296 ^ (n+1) - g*Y) % 4294967296 ^ (n+1)+Y)*4294967296 ^ j+X % 4294967296 ^ j))).set (j+n) (((X / 4294967296 ^ j+4294967296 ^ (n+1) - g*Y) % 4294967296 ^ (n+1)+Y) / 4294967296 ^ n % 4294967296)=dgs N (qy X Y j):=by
 have hl:=Nat.mod_lt X (i6 j)
 rw [pp hl]
 have:=xB (D:=(X / 4294967296 ^ j+4294967296 ^ (n+1) - g*Y) % 4294967296 ^ (n+1)+Y) (m:=n+1) (win_lt (D:=(X / 4294967296 ^ j+4294967296 ^ (n+1) - g*Y) % 4294967296 ^ (n+1)) (m:=n+1) (Nat.mod_lt _ (i6 _)) hl) hl
 rw [Nat.add_assoc,this,(h.diff_neg hle hs).2]; rfl
theorem DS.set_top {X Y n j g N:Nat} (h:DS X Y n j):(dgs N (mx X (j+n) ((X / 4294967296 ^ j+4294967296 ^ (n+1) - g*Y)*4294967296 ^ j+X % 4294967296 ^ j))).set (j+n) ((X / 4294967296 ^ j+4294967296 ^ (n+1) - g*Y) / 4294967296 ^ n % 4294967296)=dgs N ((X / 4294967296 ^ j+4294967296 ^ (n+1) - g*Y) % 4294967296 ^ (n+1)*4294967296 ^ j+X % 4294967296 ^ j):=by
 have hl:=Nat.mod_lt X (i6 j)
 rw [pp hl]
 have:=xB (D:=X / 4294967296 ^ j+4294967296 ^ (n+1) - g*Y) (m:=n+1) (X:=X) (by rw [← Nat.add_assoc]; exact h.hXn) hl
 rw [Nat.add_assoc,this]
theorem DS.sign_neg {X Y n j g:Nat} (h:DS X Y n j) (hgB:g < 4294967296) (hx:X / 4294967296 ^ (j+n) % 4294967296 < bw (X / 4294967296 ^ j+4294967296 ^ (n+1)) (g*Y) n+g*Y / 4294967296 ^ n % 4294967296):X / 4294967296 ^ j < g*Y:=by
 have h1:=(h.sub_step hgB (Nat.le_refl n)).1
 rw [h.top_sign hgB,if_pos hx] at h1
 split at h1
 · assumption
 · omega
theorem DS.sign_pos {X Y n j g:Nat} (h:DS X Y n j) (hgB:g < 4294967296) (hx:¬ X / 4294967296 ^ (j+n) % 4294967296 < bw (X / 4294967296 ^ j+4294967296 ^ (n+1)) (g*Y) n+g*Y / 4294967296 ^ n % 4294967296):¬ X / 4294967296 ^ j < g*Y:=by
 have h1:=(h.sub_step hgB (Nat.le_refl n)).1
 rw [h.top_sign hgB,if_neg hx] at h1
 split at h1
 · omega
 · assumption
theorem zP {a b:Nat} (h:decide (bn a b < 0)=true):a < b:=by
 have h:=of_decide_eq_true h
 unfold bn at h
 rw [gk] at h
 by_cases hlt:a < b
 · exact hlt
 · simp [hlt] at h
   cases hb:Nat.beq a b <;> simp [hb] at h
theorem zR {a b:Nat} (h:decide (bn a b < 0)=false):b≤a:=by
 have h:=of_decide_eq_false h
 unfold bn at h
 rw [gk] at h
 by_cases hlt:a < b
 · simp [hlt] at h
 · omega
theorem qG {n:Nat} (h:n < 18446744073709551616):IntKind.u64.wrap (n:Int)=(n:Int):=by rw [IntKind.wrap_u64]; omega
theorem nz_nat {n:Nat} (h:2147483648≤n):((n:Nat):Int)≠0:=by omega
end Go.Sx
namespace Go.Sx
open Go Go.RowKit
structure Hid (p:Prop):Prop where
 out:p
section
variable {X Y n j:Nat}
theorem DS.sub_lt (h:DS X Y n j) {g i:Nat} (hgB:g < 4294967296) (hi:i≤n) (hc:X / 4294967296 ^ (j+i) % 4294967296 < bw (X / 4294967296 ^ j+4294967296 ^ (n+1)) (g*Y) i+g*Y / 4294967296 ^ i % 4294967296) :
 bw (X / 4294967296 ^ j+4294967296 ^ (n+1)) (g*Y) (i+1)=1∧(X / 4294967296 ^ j+4294967296 ^ (n+1) - g*Y) / 4294967296 ^ i % 4294967296=X / 4294967296 ^ (j+i) % 4294967296+4294967296 - bw (X / 4294967296 ^ j+4294967296 ^ (n+1)) (g*Y) i - g*Y / 4294967296 ^ i % 4294967296:=by
 have:=h.sub_step hgB hi
 rw [if_pos hc,if_pos hc] at this
 exact this
theorem DS.sub_ge (h:DS X Y n j) {g i:Nat} (hgB:g < 4294967296) (hi:i≤n) (hc:¬ X / 4294967296 ^ (j+i) % 4294967296 < bw (X / 4294967296 ^ j+4294967296 ^ (n+1)) (g*Y) i+g*Y / 4294967296 ^ i % 4294967296) :
 bw (X / 4294967296 ^ j+4294967296 ^ (n+1)) (g*Y) (i+1)=0∧(X / 4294967296 ^ j+4294967296 ^ (n+1) - g*Y) / 4294967296 ^ i % 4294967296=X / 4294967296 ^ (j+i) % 4294967296 - bw (X / 4294967296 ^ j+4294967296 ^ (n+1)) (g*Y) i - g*Y / 4294967296 ^ i % 4294967296:=by
 have:=h.sub_step hgB hi
 rw [if_neg hc,if_neg hc] at this
 exact this
end
theorem wsub1 {a b:Nat} (ha:a < 4294967296) (hb:b≤1):IntKind.i64.wrap ((a:Int) - (b:Int))=(a:Int) - (b:Int):=by rw [IntKind.wrap_i64]; omega
theorem wsub2 {a b c:Nat} (ha:a < 4294967296) (hb:b≤1) (hc:c < 4294967296):IntKind.i64.wrap ((a:Int) - (b:Int) - (c:Int))=(a:Int) - (b:Int) - (c:Int):=by rw [IntKind.wrap_i64]; omega
theorem wsub3 {a b c:Nat} (ha:a < 4294967296) (hb:b≤1) (hc:c < 4294967296):IntKind.i64.wrap ((a:Int) - (b:Int) - (c:Int)+4294967296)=(a:Int) - (b:Int) - (c:Int)+4294967296:=by rw [IntKind.wrap_i64]; omega
theorem sub_lt0 {a b c:Nat} (h:((a:Int) - (b:Int) - (c:Int)) < 0):a < b+c:=by omega
theorem sub_ge0 {a b c:Nat} (h:¬ ((a:Int) - (b:Int) - (c:Int)) < 0):¬ a < b+c:=by omega
theorem wcon1 {a b c D:Nat} (ha:a < 4294967296) (hb:b≤1) (hc:c < 4294967296) (h:((a:Int) - (b:Int) - (c:Int)) < 0) (hD:D=a+4294967296 - b - c):IntKind.u32.wrap ((a:Int) - (b:Int) - (c:Int)+4294967296)=(D:Int):=by
 rw [IntKind.wrap_u32',hD]; omega
theorem wcon2 {a b c D:Nat} (ha:a < 4294967296) (hb:b≤1) (hc:c < 4294967296) (h:¬ ((a:Int) - (b:Int) - (c:Int)) < 0) (hD:D=a - b - c):IntKind.u32.wrap ((a:Int) - (b:Int) - (c:Int))=(D:Int):=by
 rw [IntKind.wrap_u32',hD]; omega
theorem wcon3 {a b c D:Nat} (ha:a < 4294967296) (hb:b≤1) (hc:c < 4294967296) (hD:D=(if a < b+c then a+4294967296 - b - c else a - b - c)):IntKind.u32.wrap ((a:Int) - (b:Int) - (c:Int))=(D:Int):=by
 rw [IntKind.wrap_u32',hD]; split <;> omega
end Go.Sx
namespace Go.Sx
open Go Go.RowKit
def subc:List Nat→Code→Code
 | [],c=>c
 | 0::p,.seq a _=>subc p a
 | _::p,.seq _ b=>subc p b
 | 0::p,.cond _ a _=>subc p a
 | _::p,.cond _ _ b=>subc p b
 | _::p,.block _ c=>subc p c
 | _::p,.loop c=>subc p c
 | _::p,.scope c=>subc p c
 | _::_,c=>c
inductive Nx (S R:Type) where
 | go (s:S)
 | out (s:S)
 | ret (r:R)
def bZ {S R:Type} (B:S→Nx S R):Nat→S→S ⊕ R
 | 0,s=>.inl s
 | n+1,s=>match B s with
  | .go s'=>bZ B n s'
  | .out s'=>.inl s'
  | .ret r=>.inr r
theorem cZ {S R:Type} {B:S→Nx S R} {n:Nat} {s s':S} {x:S ⊕ R} (hx:bZ B (n+1) s=x) (h:B s=.go s'):bZ B n s'=x:=by
 rw [← hx]; simp only [bZ,h]
theorem eh {S R:Type} {B:S→Nx S R} {n:Nat} {s s':S} {x:S ⊕ R} (hx:bZ B (n+1) s=x) (h:B s=.out s'):x=.inl s':=by
 rw [← hx]; simp only [bZ,h]
theorem lh {S R:Type} {B:S→Nx S R} {n:Nat} {s:S} {r:R} {x:S ⊕ R} (hx:bZ B (n+1) s=x) (h:B s=.ret r):x=.inr r:=by
 rw [← hx]; simp only [bZ,h]
def fin {S R T:Type} (x:S ⊕ R) (f:S→T) (g:R→T):T:=match x with | .inl s=>f s | .inr r=>g r
theorem mO {S R T:Type} {x:S ⊕ R} {f:S→T} {g:R→T} {s:S} (h:x=.inl s):fin x f g=f s:=by rw [h]; rfl
theorem fin_r {S R T:Type} {x:S ⊕ R} {f:S→T} {g:R→T} {r:R} (h:x=.inr r):fin x f g=g r:=by rw [h]; rfl
def gt {α:Type} [Inhabited α] (l:List α) (i:Nat):α:=l.getD i default
theorem iF {α:Type} [Inhabited α] {l:List α} {i:Nat} (h:i < l.length):l[i]?=some (gt l i):=by
 simp [gt,List.getD,List.getElem?_eq_getElem h]
def All {α:Type} (p:α→Prop) (l:List α):Prop:=∀ x∈l,p x
theorem All.nil {α:Type} {p:α→Prop}:All p []:=fun _ h=>by cases h
theorem All.one {α:Type} {p:α→Prop} {x:α} (h:p x):All p [x]:=fun y hy=>by simp at hy; exact hy ▸ h
theorem All.cons {α:Type} {p:α→Prop} {x:α} {l:List α} (h:p x) (hl:All p l):All p (x::l):=fun y hy=>by
 rcases List.mem_cons.1 hy with rfl | hy
 · exact h
 · exact hl y hy
theorem All.app {α:Type} {p:α→Prop} {l m:List α} (h:All p l) (hm:All p m):All p (l++m):=fun x hx=>(List.mem_append.1 hx).elim (h x) (hm x)
theorem All.set {α:Type} {p:α→Prop} {l:List α} {i:Nat} {x:α} (h:All p l) (hx:p x):All p (l.set i x):=fun y hy=>(List.mem_or_eq_of_mem_set hy).elim (h y) fun e=>e ▸ hx
theorem All.take {α:Type} {p:α→Prop} {l:List α} {i:Nat} (h:All p l):All p (l.take i):=fun y hy=>h y (List.mem_of_mem_take hy)
theorem All.drop {α:Type} {p:α→Prop} {l:List α} {i:Nat} (h:All p l):All p (l.drop i):=fun y hy=>h y (List.mem_of_mem_drop hy)
theorem All.gt {α:Type} [Inhabited α] {p:α→Prop} {l:List α} {i:Nat} (h:All p l) (d:p default):p (gt l i):=by
 unfold Sx.gt
 rw [List.getD_eq_getElem?_getD]
 cases e:l[i]? with
 | none=>exact d
 | some x=>exact h x (List.mem_of_getElem? e)
theorem All.mono {α:Type} {p q:α→Prop} {l:List α} (h:All p l) (hpq:∀ x,p x→q x):All q l:=fun x hx=>hpq x (h x hx)
theorem All.if {α:Type} {p:α→Prop} {c:Bool} {l m:List α} (h:All p l) (hm:All p m):All p (bif c then l else m):=by cases c; exact hm; exact h
section
variable {P:Program} {w0:World} {N:Nat} {F:List (Nat×Value)} {L:List Asn} {a:Act} {w:World} {ops:Array Oper} {Q:Exit→Act→World→Prop} {rest:List Oper}
 {d:Nat} {op:Op} {ty:TypeId} {pos:String} {aft:Array Edge}
theorem r_nilS {x:Operand} {sv:Value} {n k:Nat} (hn:NN sv n) (hx:ev F x=some (sel sv k)):Rd P w0 F [] (.nilCheck x) (sel sv k):=by
 obtain ⟨g,off,c,rfl⟩:=hn
 exact dP fun o a w ho ha=>by
  have:=ha x _ hx
  simp only [sel,ptr] at this ⊢
  simp [execOp,ho,this]
end
end Go.Sx
namespace Go.Sx
open Go Go.RowKit
section
variable {P:Program} {w0:World} {N:Nat} {F:List (Nat×Value)} {L:List Asn} {a:Act} {w:World} {ops:Array Oper} {Q:Exit→Act→World→Prop} {rest:List Oper}
 {d:Nat} {op:Op} {ty:TypeId} {pos:String} {aft:Array Edge}
theorem vK (P:Program):∃ n,P.types.size+Made.depth=n+1:=by
 have:0 < Made.depth:=by decide
 exact ⟨P.types.size+Made.depth - 1,by omega⟩
theorem oL {T:TypeId} {info:TypeInfo} {name:String} {f:FuncId} {v:Value} {fs:Array Field} (hT:P.info? T=some info) (hm:(info.methods.find? (·.name == name)).map (fun m=>(m.path,m.func))=some (#[],some (f,false)))
 (hu:∀ w,(underlying T).run P w=.ok (.struct fs) w) (w:World):(method (P.types.size+Made.depth) T v name).run P w=.ok (f,v) w:=by
 obtain ⟨n,hn⟩:=vK P
 rw [hn]
 cases h:info.methods.find? (·.name == name) with
 | none=>rw [h] at hm; simp at hm
 | some m =>
  rw [h] at hm
  simp only [Option.map_some,Option.some.injEq,Prod.mk.injEq] at hm
  simp [method,typeInfo,hT,h,follow,receiverAt,hu,Place.get,hm.1,hm.2]
theorem lU {T:TypeId} {info:TypeInfo} {name:String} {f:FuncId} {v:Value} {fs:Array Field} (hT:P.info? T=some info) (hm:(info.methods.find? (·.name == name)).map (fun m=>(m.path,m.func))=some (#[],some (f,false)))
 (hu:∀ w,(underlying T).run P w=.ok (.struct fs) w) (w:World):(nilAhead (P.types.size+Made.depth) T v name).run P w=.ok (some false) w:=by
 obtain ⟨n,hn⟩:=vK P
 rw [hn]
 cases h:info.methods.find? (·.name == name) with
 | none=>rw [h] at hm; simp at hm
 | some m =>
  rw [h] at hm
  simp only [Option.map_some,Option.some.injEq,Prod.mk.injEq] at hm
  simp [nilAhead,typeInfo,hT,h,followBlind,hu,hm.1,hm.2]
def Ent (P:Program) (F:List (Nat×Value)) (op:Op) (f:FuncId) (vs:List Value):Prop:=∀ (o:Oper) (a:Act) (w:World),o.op=op→Agr F a→(execOp a.eval o).run P w=.ok (.enter f vs.toArray) w
theorem cz {f:FuncId} {args:Array Operand} {ats:Array TypeId} {vs:List Value} (hc:∀ args w,(callFunc f args).run P w=.ok (.enter f args) w) (ha:evs F args.toList=some vs):Ent P F (.call ⟨.value (.func f),args,ats⟩) f vs :=
 fun _ _ w ho hg=>pa hc ha ho hg w
theorem uH {f:FuncId} {x:Operand} {args:Array Operand} {ats:Array TypeId} {vs cap:List Value} (hc:∀ args w,(callFunc f args).run P w=.ok (.enter f args) w) (hx:ev F x=some (.func (.func f) #[] cap.toArray)) (ha:evs F args.toList=some vs) :
 Ent P F (.call ⟨.value x,args,ats⟩) f (vs++cap):=fun _ _ w ho hg=>ya hc hx ha ho hg w
theorem ent_i {f:FuncId} {x:Operand} {name:String} {T:TypeId} {u:Value} {args:Array Operand} {ats:Array TypeId} {vs:List Value} (hm:∀ w,(method (P.types.size+Made.depth) T u name).run P w=.ok (f,u) w) (hc:∀ args w,(callFunc f args).run P w=.ok (.enter f args) w)
 (hx:ev F x=some (.iface T u)) (ha:evs F args.toList=some vs):Ent P F (.call ⟨.invoke x name,args,ats⟩) f (u::vs):=by
 intro o a w ho hg
 have h1:args.map a.eval=vs.toArray:=by
  apply Array.ext'
  simp [Array.toList_map,hg.evs ha]
 simp [execOp,ho,resolve,h1,hg x _ hx,invoke,callMethod,hm,hc]
theorem fq {f:FuncId} {vs:List Value} {v:Value} {p:Prop} (he:Ent P F op f vs) (ct:∀ w,Below w0.heap.size w0 w→(∃ U,Sep w0.heap.size w L U)→Calls P f vs.toArray w (dh w v p)):Step P w0 F L op (·=v) (fun _=>L) :=
 qL (A:=fun _=>[]) he fun w hb hs=>(ct w hb hs).mono fun _ _ h=>(show RetV w v _ _ from ⟨h.1,h.2.2⟩).ret
theorem xh {f:FuncId} {vs:List Value} {v:Value} {p:Prop} (h:St w0 N F L a w) (he:Ent P F op f vs) (ct:∀ w,Below w0.heap.size w0 w→(∃ U,Sep w0.heap.size w L U)→Calls P f vs.toArray w (dh w v p)) (hd:Nat.blt d N=true)
 (k:∀ a w,St w0 N ((d,v)::F) L a w→wpList P ops Q rest a w):wpList P ops Q (⟨some d,op,ty,pos,aft,none⟩::rest) a w :=
 wpList_plain rfl fun _ hK=>h.gen (A:=L) (B:=[]) (by simp) (fq he ct) _ rfl fun v' _ U hv hb hs'=>by subst hv; exact hK _ _ (k _ _ (h.put hd _ hb (U:=U) (by simpa using hs')))
theorem uS {f:FuncId} {vs:List Value} {φ:Value→Prop} {A:Value→List Asn} (h:St w0 N F L a w) (he:Ent P F op f vs) (ct:∀ w,Below w0.heap.size w0 w→(∃ U,Sep w0.heap.size w L U)→Calls P f vs.toArray w (Ret w φ A)) (hd:Nat.blt d N=true)
 (k:∀ v a w,φ v→St w0 N ((d,v)::F) (A v++L) a w→wpList P ops Q rest a w):wpList P ops Q (⟨some d,op,ty,pos,aft,none⟩::rest) a w :=
 wpList_plain rfl fun _ hK=>h.gen (A:=L) (B:=[]) (by simp) (qL he ct) _ rfl fun v _ U hv hb hs'=>hK _ _ (k v _ _ hv (h.put hd v hb (U:=U) (by simpa using hs')))
theorem iu {α:Type} [Cod α] {f:FuncId} {vs:List Value} {e:TypeId} {xs:List α} {p:Prop} (h:St w0 N F L a w) (he:Ent P F op f vs) (ct:∀ w,Below w0.heap.size w0 w→(∃ U,Sep w0.heap.size w L U)→Calls P f vs.toArray w (RetR w e xs p)) (hd:Nat.blt d N=true)
 (k:∀ v a w,p→St w0 N ((d,v)::F) (.row e v xs::L) a w→wpList P ops Q rest a w):wpList P ops Q (⟨some d,op,ty,pos,aft,none⟩::rest) a w :=
 uS h he ct hd fun v a w hv h=>k v a w hv.2 h
def kh:Value→Value | .tuple a=>a.getD 0 undef | _=>undef
def RetT {α:Type} [Cod α] (w:World) (e:TypeId) (xs:List α) (vs:List Value) (p:Prop):Ending→World→Prop:=Ret w (fun v=>v=.tuple (kh v::vs).toArray∧SL (kh v) xs.length∧p) (fun v=>[.row e (kh v) xs])
theorem sg {α:Type} [Cod α] {f:FuncId} {us vs:List Value} {e:TypeId} {xs:List α} {p:Prop} (h:St w0 N F L a w) (he:Ent P F op f us) (ct:∀ w,Below w0.heap.size w0 w→(∃ U,Sep w0.heap.size w L U)→Calls P f us.toArray w (RetT w e xs vs p)) (hd:Nat.blt d N=true)
 (k:∀ sv a w,p→St w0 N ((d,.tuple (sv::vs).toArray)::F) (.row e sv xs::L) a w→wpList P ops Q rest a w):wpList P ops Q (⟨some d,op,ty,pos,aft,none⟩::rest) a w :=
 uS h he ct hd fun v a w hv h=>k (kh v) a w hv.2.2 (by have:=h; rw [hv.1] at this; exact this)
theorem RetT.pr {f:FuncId} {args:Array Value} {α:Type} [Cod α] {e:TypeId} {xs:List α} {vs:List Value} {p:Prop} {w':World} (h:Calls P f args w (RetT w' e xs vs p)):p:=by
 obtain ⟨_,_,_,⟨_,_,_,⟨_,_,hp⟩,_⟩,_⟩:=h []
 exact hp
theorem St.retT {α:Type} [Cod α] {e:TypeId} {sv:Value} {xs:List α} {vs us:List Value} {p:Prop} (h:St w0 N F L a w) (i:Nat) (hi:L[i]?=some (Asn.row e sv xs)) (hu:us=vs) (hp:p):RetT w0 e xs vs p (.returned (.tuple (sv::us).toArray)) w:=by
 subst hu
 obtain ⟨B,hq,_⟩:=eZ (Asn.row e sv xs) hi
 have h2:=(h.perm hq).take 1
 exact h.retA (φ:=fun v=>v=.tuple (kh v::us).toArray∧SL (kh v) xs.length∧p) (A:=fun v=>[.row e (kh v) xs]) (v:=.tuple (sv::us).toArray) ⟨by simp [kh],by simp [kh]; exact h.row_sl i hi,hp⟩ (by simpa [kh] using h2)
def StepB (P:Program) (w0:World) (F:List (Nat×Value)) (L:List Asn) (op:Op) (φ:Value→Prop) (L':Value→List Asn):Prop :=
 ∀ (o:Oper) (a:Act) (w:World) (B:Asn) (K:Act→World→Prop) (Q:Exit→Act→World→Prop),o.op=op→Agr F a→Below w0.heap.size w0 w→(∃ U,Sep w0.heap.size w (L++[B]) U) →
  (∀ v w',φ v→Below w0.heap.size w0 w'→(∃ U',Sep w0.heap.size w' (L' v++[B]) U')→K (a.put o.dst v) w')→o.wp P a w K Q
def Asn.others (lo:Nat) (w:World) (U:Fp):Asn :=
 ⟨fun w' f=>(∀ k,f k↔lo≤k∧k < w.heap.size∧¬ U k)∧∀ k,f k→w'.heap[k]?=w.heap[k]?,fun h ⟨h1,h2⟩=>⟨h1,fun k hk=>(h k hk).trans (h2 k hk)⟩⟩
theorem StepB.step {φ:Value→Prop} {L':Value→List Asn} (h:StepB P w0 F L op φ L'):Step P w0 F L op φ L':=by
 intro o a w U K Q ho ha hb hs k
 have hB:Sep w0.heap.size w [Asn.others w0.heap.size w U] (fun k=>w0.heap.size≤k∧k < w.heap.size∧¬ U k) :=
  ⟨fun k=>w0.heap.size≤k∧k < w.heap.size∧¬ U k,fun _=>False,fun k=>by simp,fun _ _=>id,fun k hk=>⟨hk.1,hk.2.1⟩,⟨fun _=>Iff.rfl,fun _ _=>rfl⟩,fun _=>id⟩
 refine h o a w _ K Q ho ha hb ⟨_,hs.append hB fun k hk hn=>hn.2.2 hk⟩ fun v w' hv hb' ⟨U',hU'⟩=>?_
 obtain ⟨V,W,hV,hW,hVW,_⟩:=hU'.split
 obtain ⟨f,X,hWf,_,hfr,⟨hf,hfe⟩,hX⟩:=hW
 have hWk:∀ k,w0.heap.size≤k→k < w.heap.size→¬ U k→W k:=fun k h1 h2 h3=>(hWf k).2 (.inl ((hf k).2 ⟨h1,h2,h3⟩))
 refine k v w' V hv ⟨hb'.os.trans hb.os.symm,hb'.tape.trans hb.tape.symm,hb'.output.trans hb.output.symm,fun n hn hU=>?_,fun k hk hu=>?_,fun k hk=>?_,fun _=>hb'.drawn⟩ hV
 · rcases Nat.lt_or_ge w0.heap.size n with hlt | hge
   · have h1:f (n - 1):=(hf _).2 ⟨by omega,by omega,fun hu=>by have:=hU _ hu; omega⟩
     have:=(hfr _ h1).2
     omega
   · exact Nat.le_trans hge hb'.size
 · rcases Nat.lt_or_ge k w0.heap.size with hlt | hge
   · rw [hb'.block k hlt,hb.block k hlt]
   · exact hfe k ((hf k).2 ⟨hge,hk,hu⟩)
 · rcases Nat.lt_or_ge k w.heap.size with hlt | hge
   · refine .inl (Classical.byContradiction fun hu=>hVW k hk (hWk k (hV.range k hk).1 hlt hu))
   · exact .inr hge
def RetY (w0:World) (φ:Value→Prop) (A:Value→List Asn):Ending→World→Prop:=fun e w'=>∃ v,e=.returned v∧φ v∧Below w0.heap.size w0 w'∧∃ U,Sep w0.heap.size w' (A v) U
theorem jx {f:FuncId} {vs:List Value} {φ:Value→Prop} {A:Value→List Asn} (he:Ent P F op f vs) (ct:∀ w B,Below w0.heap.size w0 w→(∃ U,Sep w0.heap.size w (L++[B]) U)→Calls P f vs.toArray w (RetY w0 φ (fun v=>A v++[B]))):Step P w0 F L op φ A :=
 StepB.step fun o a w B K Q ho ha hb hs k=>by
  unfold Oper.wp
  rw [he o a w ho ha]
  refine (ct w B hb hs).mono ?_
  rintro e w' ⟨v,rfl,hv,hb',hs'⟩
  exact k v w' hv hb' hs'
theorem St.retY {φ:Value→Prop} {A:Value→List Asn} (h:St w0 N F L a w) {v:Value} (hφ:φ v) (e:L=A v):RetY w0 φ A (.returned v) w:=⟨v,rfl,hφ,h.bel,by rw [← e]; exact h.sep⟩
theorem RetY.pr {f:FuncId} {args:Array Value} {φ:Value→Prop} {A:Value→List Asn} {p:Prop} (hp:∀ v,φ v→p) {w':World} (h:Calls P f args w (RetY w' φ A)):p:=by
 obtain ⟨_,_,_,⟨_,_,hv,_⟩,_⟩:=h []
 exact hp _ hv
theorem on1 (h:St w0 N F L a w) (i:Nat) {r:Asn} (hi:L[i]?=some r) {φ:Value→Prop} {A':Value→List Asn} (hs:Step P w0 F [r] op φ A') (hd:Nat.blt d N=true)
 (k:∀ v a w,φ v→St w0 N ((d,v)::F) (A' v++L.eraseIdx i) a w→wpList P ops Q rest a w):wpList P ops Q (⟨some d,op,ty,pos,aft,none⟩::rest) a w:=by
 have hlt:i < L.length:=(List.getElem?_eq_some_iff.1 hi).1
 have hp:L.Perm ([r]++L.eraseIdx i):=by
  have:=jj hlt
  rw [(List.getElem?_eq_some_iff.1 hi).2] at this
  exact this
 exact wpList_plain rfl fun _ hK=>h.gen (A:=[r]) (B:=L.eraseIdx i) hp hs _ rfl fun v _ U hv hb hs'=>hK _ _ (k v _ _ hv (h.put hd v hb (U:=U) hs'))
theorem on2 (h:St w0 N F L a w) (i j:Nat) {r s:Asn} (hi:L[i]?=some r) (hj:(L.eraseIdx i)[j]?=some s) {φ:Value→Prop} {A':Value→List Asn} (hs:Step P w0 F [r,s] op φ A') (hd:Nat.blt d N=true)
 (k:∀ v a w,φ v→St w0 N ((d,v)::F) (A' v++(L.eraseIdx i).eraseIdx j) a w→wpList P ops Q rest a w):wpList P ops Q (⟨some d,op,ty,pos,aft,none⟩::rest) a w:=by
 have hlt:i < L.length:=(List.getElem?_eq_some_iff.1 hi).1
 have hlt2:j < (L.eraseIdx i).length:=(List.getElem?_eq_some_iff.1 hj).1
 have hp:L.Perm ([r,s]++(L.eraseIdx i).eraseIdx j):=by
  have h1:=jj hlt
  rw [(List.getElem?_eq_some_iff.1 hi).2] at h1
  have h2:=jj hlt2
  rw [(List.getElem?_eq_some_iff.1 hj).2] at h2
  exact h1.trans (h2.cons _)
 exact wpList_plain rfl fun _ hK=>h.gen (A:=[r,s]) (B:=(L.eraseIdx i).eraseIdx j) hp hs _ rfl fun v _ U hv hb hs'=>hK _ _ (k v _ _ hv (h.put hd v hb (U:=U) hs'))
theorem ry {x:Operand} {t tt:TypeId} {p:Option Addr} (hu:P.underlying t=some (.pointer (P.pointee t))) (hx:ev F x=some (.pointer p)):Rd P w0 F [] (.binOp .neq t x (.const (.pointer none)) tt) (.bool p.isSome) :=
 dP fun o a w ho ha=>by
  have h2:a.eval (.const (.pointer none))=.pointer none:=rfl
  cases p <;> simp [execOp,ho,ha x _ hx,h2,eqGuard_at_pointer,run_neq_pointer_nil _ t _ hu]
theorem r_neqPS {x:Operand} {t tt:TypeId} {sv:Value} {n k:Nat} (hu:P.underlying t=some (.pointer (P.pointee t))) (hn:NN sv n) (hx:ev F x=some (sel sv k)):Rd P w0 F [] (.binOp .neq t x (.const (.pointer none)) tt) (.bool true):=by
 obtain ⟨g,off,c,rfl⟩:=hn
 exact ry (p:=some ⟨g,off+k,none⟩) hu hx
def slNil:Value→Bool | .slice none _ _=>true | _=>false
theorem r_eqlSN {x:Operand} {t tt e:TypeId} {sv:Value} {n:Nat} (hu:P.underlying t=some (.slice e)) (hs:SL sv n) (hx:ev F x=some sv):Rd P w0 F [] (.binOp .eql t x (.const (.slice none 0 0)) tt) (.bool (slNil sv)):=by
 obtain ⟨b,c,rfl⟩:=hs
 exact dP fun o a w ho ha=>by
  have h2:a.eval (.const (.slice none 0 0))=.slice none 0 0:=rfl
  cases b <;> simp [execOp,ho,ha x _ hx,h2,eqGuard_at_slice,binOp,Op.equal,Op.maxDepth,run_equalIn_slice_nil _ 9999 t e _ _ _ hu,slNil]
theorem View.nil {α:Type} [Cod α] {sv:Value} {xs:List α} (h:View w sv xs) (hn:slNil sv=true):xs=[]∧sv=.slice none 0 0:=by
 obtain ⟨_,⟨rfl,rfl⟩ | ⟨g,off,cap,cur,e,fr,rfl,_⟩⟩:=h
 · exact ⟨rfl,rfl⟩
 · simp [slNil] at hn
theorem qe {sz:Nat}:∀ (vs:List Value) (us:List (List Value)) (j:Nat) (pre tail:List Value),vs.map (fun v=>v.cells.toList)=us→(∀ u∈us,u.length=sz)→pre.length=j*sz→tail.length=us.length*sz →
 qB (fun i=>some (i*sz,sz)) (pre++tail) ((vs.zipIdx j).map fun p=>(p.2,p.1))=some (pre++us.flatten)
 | [],us,j,pre,tail,hv,hu,hp,ht=>by
  simp only [List.map_nil] at hv
  subst hv
  simp at ht
  subst ht
  simp [qB]
 | v::vs,us,j,pre,tail,hv,hu,hp,ht=>by
  subst hv
  simp only [List.map_cons,List.zipIdx_cons,qB]
  have h1:v.cells.toList.length=sz:=hu _ (by simp)
  simp only [List.map_cons,List.length_cons,List.length_map] at ht
  have hb:(Nat.beq v.cells.toList.length sz && Nat.ble (j*sz+sz) (pre++tail).length)=true:=by
   rw [h1]
   simp only [List.length_append,hp,ht,Nat.add_mul,Nat.one_mul,Bool.and_eq_true]
   exact ⟨by simp,Nat.ble_eq_true_of_le (by omega)⟩
  rw [hb]
  simp only [cond_true]
  have hspl:spl (pre++tail) (j*sz) v.cells.toList=(pre++v.cells.toList)++tail.drop sz:=by
   simp only [spl]
   rw [← hp,List.take_left,h1,List.drop_append,List.drop_of_length_le (by omega)]
   simp
  rw [hspl,qe vs _ (j+1) (pre++v.cells.toList) (tail.drop sz) rfl (fun u h=>hu u (by simp [h])) (by simp only [List.length_append,hp,h1,Nat.add_mul,Nat.one_mul])
   (by simp only [List.length_drop,ht,List.length_map,Nat.add_mul,Nat.one_mul]; omega)]
  simp
theorem vL {α:Type} [Cod α] (us:List α):flat us=(us.map Cod.enc).flatten:=by simp [flat,List.flatMap]
theorem bT {α:Type} [Cod α] {t e:TypeId} {bytes n:Nat} {zero:List Value} {xs:List Operand} {vs:List Value} (us:List α) (hT:SlT P t e (Cod.n α) bytes zero) (hx:evs F xs=some vs) (hv:vs.map (fun v=>v.cells.toList)=us.map Cod.enc) (hn:n=us.length) (hn2:n≤4096) :
 Step P w0 F [] (.buildSlice t n ((xs.zipIdx).map fun p=>(p.2,p.1)).toArray) (fun s=>NN s us.length) (fun s=>[Asn.row e s us]):=by
 intro o a w U K Q ho ha hb hs k
 obtain ⟨ht,i,z,hi,hz,hzc,hsz,hby,hzl,hn4,_⟩:=hT
 unfold Oper.wp
 have hpos:0 < Cod.n α:=Cod.pos
 have hlen:us.length=vs.length:=by
  have:=congrArg List.length hv
  simpa using this.symm
 have h2:(((xs.zipIdx).map fun p=>(p.2,p.1)).map fun p=>(p.1,a.eval p.2))=(vs.zipIdx).map fun p=>(p.2,p.1):=by
  rw [← ha.evs hx,List.zipIdx_map]
  simp [Function.comp_def]
 have hf:Instr.fill (fun i=>some (i*Cod.n α,Cod.n α)) ((Array.range (n*Cod.n α)).map fun j=>zero.toArray[j % zero.toArray.size]!) ((vs.zipIdx).map fun p=>(p.2,p.1))=some (flat us).toArray:=by
  have:=qe (sz:=Cod.n α) vs _ 0 [] ((Array.range (n*Cod.n α)).map fun j=>zero.toArray[j % zero.toArray.size]!).toList hv (fun u hu=>by
   obtain ⟨x,_,rfl⟩:=List.mem_map.1 hu
   exact Cod.len x) (by simp) (by simp [hn])
  rw [List.nil_append,List.nil_append,← vL] at this
  have:=ot _ _ _ _ this
  rw [Array.toArray_toList] at this
  exact this
 have n1:¬ (2 ^ 24 < n*Cod.n α):=by
  have:n*Cod.n α≤4096*4096:=Nat.mul_le_mul hn2 hn4
  omega
 have hz':z.cells=zero.toArray:=by rw [← hzc]
 have hr:(execOp a.eval o).run P w=.ok (.value (.slice (some ⟨w.heap.size,0,none⟩) n n)) (w.alloc (.cells (flat us).toArray e)):=by
  by_cases h0:n*Cod.n α=0
  · have hn0:n=0:=by
     rcases Nat.mul_eq_zero.1 h0 with h | h
     · exact h
     · omega
    have hus:us=[]:=List.length_eq_zero_iff.1 (by omega)
    subst hus
    have hvs:vs=[]:=List.length_eq_zero_iff.1 (by simpa using hlen.symm)
    subst hvs hn0
    have hz0:∀ f:Nat→Value,(Array.range (0*Cod.n α)).map f=#[]:=fun f=>Array.size_eq_zero_iff.1 (by simp)
    have h00:0*Cod.n α=0:=Nat.zero_mul _
    have n2:¬ (2 ^ 24 < 0):=by decide
    simp only [execOp,ho,Instr.buildSlice,Sem.run_bind,run_underlying ht,Result.andThen_ok,sizeOf,typeInfo,run_program,hi,Sem.run_pure,hsz,gt_iff_lt,hz0,h00,n2,if_false,if_true,List.map_toArray,h2,List.zipIdx_nil,List.map_nil,Instr.fill,newRow,run_newObj]
    rw [show (Array.range 0).map (fun x=>(#[]:Array Value)[x % (#[]:Array Value).size]!)=#[] from Array.size_eq_zero_iff.1 (by simp)]
    rfl
  · simp only [execOp,ho,Instr.buildSlice,Sem.run_bind,run_underlying ht,Result.andThen_ok,sizeOf,typeInfo,run_program,hi,Sem.run_pure,hsz,gt_iff_lt,n1,h0,if_false,zeroValue,hz,hz',List.map_toArray,h2,hf,newRow,run_newObj]
    rfl
 rw [hr]
 refine k _ _ (fun k=>k=w.heap.size) ⟨_,_,_,by rw [hn]⟩ ((jl w _).weak fun _ h=>h.elim) ⟨fun k=>k=w.heap.size,fun _=>False,fun k=>by simp,fun _ _=>id,fun k hk=>by simp only [hk,World.size_alloc]; have:=hb.size; omega,?_,fun _=>id⟩
 refine ⟨⟨by rw [bV],.inr ⟨w.heap.size,n,(flat us).toArray,by rw [hn],Nat.zero_le _,?_,by omega,by simp [maxLen]; omega,by simp [bV,hn],?_⟩⟩,fun k=>?_⟩
 · show (w.heap.push _)[w.heap.size]?=_; simp
 · simp [← bV]
 · simp [Value.ownBlock,eq_comm]
theorem eA {α:Type} [Cod α] {t e:TypeId} {bytes:Nat} {zero:List Value} (hT:SlT P t e (Cod.n α) bytes zero) {x y:Operand} {sv tv:Value} {xs ys:List α} {R:List Asn} (hw:∀ w,(∃ U,Sep w0.heap.size w R U)→View w tv ys) (hx:ev F x=some sv) (hy:ev F y=some tv) (hlen:xs.length+ys.length≤34359738368) :
 Step P w0 F (Asn.row e sv xs::R) (.call ⟨.builtin .append,#[x,y],#[t,t]⟩) (fun v=>ys≠[]→NN v (xs++ys).length) (fun v=>Asn.row e v (xs++ys)::R):=by
 intro o a w U K Q ho ha hb hs k
 obtain ⟨f,V,hU,hd,hlt,⟨hown,hf1⟩,hV⟩:=hs
 obtain ⟨v',w',hr,h1,hg,hbk,h3⟩:=um (P:=P) (tt:=o.type) hT hown (hw w ⟨V,hV⟩) hlen
 have hrun:(execOp a.eval o).run P w=.ok (.value v') w':=by
  simp [execOp,ho,resolve,invoke,builtin,ha x _ hx,ha y _ hy,hr]
 unfold Oper.wp
 rw [hrun]
 have hVn:∀ k,V k→¬ (v'.ownBlock=some k):=fun k hk he=>by
  rcases hbk k he with h | h
  · exact hd k ((hf1 k).2 h) hk
  · have:=(hV.range k hk).2; omega
 refine k v' w' (fun k=>v'.ownBlock=some k∨V k) h3 (mL hg (fun k hk=>(hU k).2 (.inl ((hf1 k).2 hk))) (fc _ hr) fun k hk=>?_) ?_
 · rcases hk with hk | hk
   · exact (hbk k hk).imp (fun h=>(hU k).2 (.inl ((hf1 k).2 h))) fun h=>by omega
   · exact .inl ((hU k).2 (.inr hk))
 · refine (rm h1 fun k hk=>?_).append (hV.moved fun k hk=>hg.block k (hV.range k hk).2 fun e=>hd k ((hf1 k).2 e.symm) hk) fun k hk hv=>hVn k hv hk
   rcases hbk k hk with h | rfl
   · exact (hlt k ((hf1 k).2 h)).1
   · exact hb.size
end
end Go.Sx
namespace Go.Sx
open Go Go.RowKit
theorem View.nilv {α:Type} [Cod α] {w:World}:View w (.slice none 0 0) ([]:List α):=⟨⟨Nat.zero_le _,Nat.zero_le _⟩,.inl ⟨rfl,rfl⟩⟩
def dropv (sv:Value) (n size:Nat):Value:=match sv with | .slice a l c=>.slice (if c=n then a else a.map (·.add (n*size))) (l - n) (c - n) | _=>undef
theorem tI {α:Type} [Cod α]:∀ (n:Nat) (xs:List α),flat (xs.drop n)=(flat xs).drop (n*Cod.n α)
 | 0,xs=>by simp
 | n+1,[]=>by simp [flat]
 | n+1,x::xs=>by
  rw [List.drop_succ_cons,tI n xs]
  have:flat (x::xs)=Cod.enc x++flat xs:=by simp [flat]
  rw [this,show (n+1)*Cod.n α=(Cod.enc x).length+n*Cod.n α by rw [Cod.len,Nat.add_mul,Nat.one_mul,Nat.add_comm],List.drop_length_add_append]
theorem View.dropv {α:Type} [Cod α] {w:World} {sv:Value} {xs:List α} {n:Nat} (h:View w sv xs) (hn:n≤xs.length):View w (dropv sv n (Cod.n α)) (xs.drop n):=by
 obtain ⟨⟨h1,h2⟩,⟨rfl,rfl⟩ | ⟨g,off,cap,cur,e,fr,rfl,hh,hx⟩⟩:=h
 · have:n=0:=by simpa using hn
   subst this
   exact ⟨⟨Nat.zero_le _,Nat.zero_le _⟩,.inl ⟨by simp [Sx.dropv],by simp⟩⟩
 · simp only [tY] at h2
   refine ⟨⟨by simp; omega,by simp [Sx.dropv,tY]; omega⟩,.inr ?_⟩
   by_cases hc:cap=n
   · refine ⟨g,off,cap - n,cur,e,fr,by simp [Sx.dropv,hc],hh,fun j hj=>?_⟩
     have:xs.drop n=[]:=by
      rw [List.drop_eq_nil_iff]; omega
     rw [this] at hj
     simp [flat] at hj
   · refine ⟨g,off+n*Cod.n α,cap - n,cur,e,fr,by simp [Sx.dropv,hc,Addr.add],hh,fun j hj=>?_⟩
     rw [tI] at hj ⊢
     rw [List.length_drop] at hj
     have:=hx (n*Cod.n α+j) (by omega)
     rw [List.getElem?_drop,← this]
     congr 1
     omega
section
variable {P:Program} {w0:World} {N M:Nat} {F:List (Nat×Value)} {L:List Asn} {a:Act} {w:World} {ops:Array Oper} {Q:Exit→Act→World→Prop} {rest:List Oper}
 {d:Nat} {op:Op} {ty:TypeId} {pos:String} {aft:Array Edge}
theorem c_ifT {c:Operand} {x y:Code} {b:Bool} (h:St w0 N F L a w) (hc:ev F c=some (.bool b)) (k:x.wp P Q a w) (hb:b=true:=by rfl):(Code.cond c x y).wp P Q a w :=
 ku h hc (fun _=>k) (fun e=>by rw [hb] at e; cases e)
theorem c_ifF {c:Operand} {x y:Code} {b:Bool} (h:St w0 N F L a w) (hc:ev F c=some (.bool b)) (k:y.wp P Q a w) (hb:b=false:=by rfl):(Code.cond c x y).wp P Q a w :=
 ku h hc (fun e=>by rw [hb] at e; cases e) (fun _=>k)
theorem inl {f:FuncId} {fn:Func} {c:Code} {vs:List Value} (h:St w0 N F L a w) (he:Ent P F op f vs) (hf:P.funcs[f]?=some fn) (hb:fn.body=some c) (hM:vs.length+(fn.ntmps - vs.length)=M) (hd:Nat.blt d N=true)
 (hcode:∀ R:Ending→World→Prop,(∀ (v:Value) (L':List Asn) (w':World),Below w0.heap.size w0 w'→(∃ U,Sep w0.heap.size w' L' U)→(∀ a',St w0 N ((d,v)::F) L' a' w'→wpList P ops Q rest a' w')→R (.returned v) w') →
   ∀ ai,St w0 M (zipF 0 vs) L ai w→c.wp P (bodyPost P fn R) ai w):wpList P ops Q (⟨some d,op,ty,pos,aft,none⟩::rest) a w :=
 wpList_plain rfl fun K hK=>by
  unfold Oper.wp
  rw [he _ a w rfl h.agr]
  refine calls_of_wp hf hb ?_ 
  refine hcode _ ?_ _ (by
   have:=St.init w vs fn.ntmps hM (F:=zipF 0 vs) fun _ _ hv=>(nA hv).2
   exact ⟨this.size,this.defers,this.regs,h.bel,h.sep⟩)
  intro v L' w' hb' hs' hk
  obtain ⟨U,hU⟩:=hs'
  exact hK _ _ (hk _ (h.put hd v hb' (U:=U) hU))
end
end Go.Sx
