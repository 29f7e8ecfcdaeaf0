/- A part of the proof of movingnumberChecks. -/
import Derived.Test.YtpfdaoajcnophaaGreatDoorProg
import Derived.Test.YtpfdaoajcnophaaGreatDoorAxK
import Derived.Test.YtpfdaoajcnophaaGreatDoorExtK
set_option linter.unusedVariables false
set_option linter.unusedSimpArgs false
open Go.Proofs.Tryz renaming sizeOf4 → zz4, sizeOf27 → zz27, underlying339 → nn339, underlying341 → nn341, isAgg27 → aa27, runUnderlying9 → uu9, runUnderlying5 → uu5, runUnderlying260 → uu260, runUnderlying338 → uu338, sizeOf5 → zz5, underlying5 → nn5, underlying9 → nn9, runUnderlying341 → uu341, sizeOf343 → zz343, isAgg343 → aa343, runUnderlying343 → uu343, runUnderlying339 → uu339, runUnderlying245 → uu245, sizeOf3 → zz3, call200 → cc200, call202 → cc202, call273 → cc273, call275 → cc275, runUnderlying2 → uu2
namespace Go.Sx
open Go Go.RowKit Go.Proofs
set_option maxRecDepth 100000
set_option maxHeartbeats 40000000
attribute [local irreducible] Code.wp wpList Rd Step ObS Ent
theorem mixed:Tryz.prog.follows .mixedOrders=true:=by kernel_rfl
theorem qo:BuildF Tryz.prog 27 [.bool false,.string ⟨#[]⟩] [(0,1),(1,1)]:=BuildF.of Tryz.zeroValue27 rfl Tryz.runUnderlying27 (by intro w; simp [zz4,Tryz.sizeOf9])
theorem mR:BuildF Tryz.prog 29 [.bool false,.string ⟨#[]⟩,.bool false,.string ⟨#[]⟩] [(0,2),(2,2)]:=BuildF.of Tryz.zeroValue29 rfl Tryz.runUnderlying29 (by intro w; simp [zz27])
theorem xp:BuildF Tryz.prog 72 [.bool false,.string ⟨#[]⟩,.bool false,.string ⟨#[]⟩,.bool false,.string ⟨#[]⟩,.bool false,.string ⟨#[]⟩,.bool false,.string ⟨#[]⟩,.bool false,.string ⟨#[]⟩] [(0,4),(4,4),(8,4)]:=BuildF.of Tryz.zeroValue72 rfl Tryz.runUnderlying72 (by intro w; simp [Tryz.sizeOf29])
theorem xn:BuildF Tryz.prog 46 [.bool false,.string ⟨#[]⟩,.bool false,.string ⟨#[]⟩,.bool false,.string ⟨#[]⟩,.bool false,.string ⟨#[]⟩,.bool false] [(0,4),(4,4),(8,1)]:=BuildF.of Tryz.zeroValue46 rfl Tryz.runUnderlying46 (by intro w; simp [Tryz.sizeOf29,zz4])
theorem qE:BuildF Tryz.prog 74 [.bool false,.string ⟨#[]⟩,.bool false,.string ⟨#[]⟩,.bool false,.string ⟨#[]⟩,.bool false,.string ⟨#[]⟩,.bool false,.bool false,.string ⟨#[]⟩,.bool false,.string ⟨#[]⟩,.bool false,.string ⟨#[]⟩,.bool false,.string ⟨#[]⟩,.bool false,.bool false,.bool false] [(0,9),(9,9),(18,1),(19,1)]:=BuildF.of Tryz.zeroValue74 rfl Tryz.runUnderlying74 (by intro w; simp [zz4,Tryz.sizeOf46])
theorem oS:BuildF Tryz.prog 88 [.bool false,.string ⟨#[]⟩,.bool false,.string ⟨#[]⟩,.bool false,.string ⟨#[]⟩,.bool false,.string ⟨#[]⟩,.bool false,.bool false,.string ⟨#[]⟩,.bool false,.string ⟨#[]⟩,.bool false,.string ⟨#[]⟩,.bool false,.string ⟨#[]⟩,.bool false,.bool false,.bool false,.bool false,.string ⟨#[]⟩,.bool false,.string ⟨#[]⟩,.bool false,.string ⟨#[]⟩,.bool false,.string ⟨#[]⟩,.bool false,.string ⟨#[]⟩,.bool false,.string ⟨#[]⟩] [(0,20),(20,12)]:=BuildF.of Tryz.zeroValue88 rfl Tryz.runUnderlying88 (by intro w; simp [Tryz.sizeOf72,Tryz.sizeOf74])
theorem xU:SlT Tryz.prog 339 5 1 1 [.int .u8 0]:=⟨nn339,Tryz.t5,_,Tryz.type5,rfl,rfl,rfl,rfl,rfl,by decide,by decide⟩
theorem pE:SlT Tryz.prog 341 343 1 4 [.int .u32 0]:=⟨nn341,Tryz.t343,_,Tryz.type343,rfl,rfl,rfl,rfl,rfl,by decide,by decide⟩
theorem slt358:SlT Tryz.prog 245 3 1 8 [.int .i64 0]:=⟨Tryz.underlying245,Tryz.t3,_,Tryz.type3,rfl,rfl,rfl,rfl,rfl,by decide,by decide⟩
def aD (neg:Bool) (mag:Nat):GI :=
 (⟨(neg && (!(decide (mag=0)))),mag⟩:GI)
theorem cu (neg:Bool) (mag:Nat) (k:Nat) (hk:k≤40) (zmag:SzB k mag) (w0:World):Calls Tryz.prog 201 #[(.bool neg),(.string (bs mag))] w0 (dh w0 (vI (aD neg mag)) (SzI k (aD neg mag))):=by
 refine enter (N:=12) (args:=[(.bool neg),(.string (bs mag))]) Tryz.func201 rfl rfl ?_; intro ac h
 refine gz h <| (xa) fun b1=>(xo (hs:=by exact bX qo exs rfl (v:=(vI (⟨(neg && (!(decide (mag=0)))),mag⟩:GI))) rfl)) <| (W) ?_; clear h ac; intro ac wo h
 exact ret h rfl (.cell (v:=(vI (⟨(neg && (!(decide (mag=0)))),mag⟩:GI))) rfl (i:=0) rfl aa27 zz27 rfl rfl rfl .nil) rfl (h.retP (by unfold aD; rfl) (by unfold aD; exact zmag))
theorem l5 (m:Nat) (w0:World):Calls Tryz.prog 219 #[(.string (bs m))] w0 (dh w0 (.tuple #[(.int .u64 (((eL m).1:Nat):Int)),(.bool ((eL m).2))]) (True)):=by
 refine enter (N:=23) (args:=[(.string (bs m))]) Tryz.func219 rfl rfl ?_; intro ac h
 refine gz h <| (xo (hs:=by exact lM uu9 rfl)) <| (ai) ?_ ?_ <;> clear h ac <;> intro ac wo h hc1
 ·
  have hd1:=of_decide_eq_true hc1
  have hd:eL m=(0,false):=xA (by rw [fm] at hd1; omega)
  refine gz h <| (W) ?_; clear h ac wo; intro ac wo h
  exact (rt h) (h.retP (by rw [hd] <;> rfl) trivial)
 ·
  have hd1:=of_decide_eq_false hc1
  refine gz h <| (xo (hs:=by exact lM uu9 rfl)) <| (W) ?_; clear h ac wo; intro ac wo h
  have h8:(le m).length≤8:=by rw [fm] at hd1; omega
  have hm:=qz m
  have h0:m / 256 ^ ((le m).length - 0)=0:=Nat.div_eq_of_lt (by simpa using hm)
  refine wp_loop_ghost (fun n_ a_ w_=>∃ (i:Nat),n_=(le m).length - i∧(i≤(le m).length)∧St w0 23 [(0,(.string (bs m))),(10,(.int .i64 ((bs m).size:Int))),(11,(.int .i64 (i:Int))),(4,(.int .u64 ((m / 256 ^ ((le m).length - i):Nat):Int)))] [] a_ w_) _ ⟨0,rfl,og,(h.pick [] (by decide)).sub ⟨rfl,rfl,rfl,(congrArg (fun x:Nat=>some (Value.int .u64 (x:Int))) h0.symm),trivial⟩⟩ ?_
  clear h ac wo; rintro _ ac wo ⟨i,rfl,hi,h⟩
  refine gz h <| (ai) ?_ ?_ <;> clear h ac wo <;> intro ac wo h hc2
  ·
   have hd2:=of_decide_eq_true hc2
   refine gz h <| (W) ?_; clear h ac wo; intro ac wo h
   have hlt:i < (le m).length:=by rw [fm] at hd2; omega
   have hub:=Nat.lt_of_lt_of_le (pv_lt m (le m).length i hm og) (Nat.pow_le_pow_right (n:=256) (by decide) (show i≤7 by omega))
   have hbg:=aag (n:=m) (i:=i) (by rw [fm]; omega)
   refine gz h <| (xo (hs:=by exact sS rfl rfl (r:=((m / 256 ^ ((le m).length - i)*2 ^ 8:Nat):Int)) og (by first | decide | (simp [IntKind.bits] <;> omega)) (qF rfl og))) <| (xo (hs:=by exact nh (i:=i) uu9 rfl rfl (by rw [fm]; omega))) <| (xo (hs:=by exact a8 uu5 uu260 rfl (r:=(((bs m)[i]'(by rw [fm]; omega)).toNat:Int)) (by rw [IntKind.wrap_u64]; omega))) <| (xo (hs:=by exact uo rfl rfl (r:=((m / 256 ^ ((le m).length - i)*256+m / 256 ^ ((le m).length - 1 - i) % 256:Nat):Int)) (by rw [hbg,j6 (k:=8) _ _ og og og]))) <| (W) ?_; clear h ac wo; intro ac wo h
   rw [be_step m (le m).length i (by rw [fm] at hd2; omega)] at h
   exact az ⟨_,(by rw [fm] at hd2; omega),i+1,rfl,(by rw [fm] at hd2; omega),h.re []⟩
  ·
   have hd2:=of_decide_eq_false hc2
   have hd:eL m=((m / 256 ^ ((le m).length - i)),true):=(by rw [u2 og,show (le m).length - i=0 by rw [fm] at hd2; omega]; simp)
   refine gz h <| (W) ?_; clear h ac wo; intro ac wo h
   exact (rt h) (h.retP (by rw [hd] <;> rfl) trivial)
def gA (a:Nat) (b:Nat):Nat×Nat×Bool :=
 ((eL a).1,(eL b).1,((eL a).2 && (eL b).2))
theorem gG (a:Nat) (b:Nat) (w0:World):Calls Tryz.prog 200 #[(.string (bs a)),(.string (bs b))] w0 (dh w0 (.tuple #[(.int .u64 (((gA a b).1:Nat):Int)),(.int .u64 (((gA a b).2.1:Nat):Int)),(.bool ((gA a b).2.2))]) (True)):=by
 refine enter (N:=24) (args:=[(.string (bs a)),(.string (bs b))]) Tryz.func200 rfl rfl ?_; intro ac h
 refine gz h <| (xk (l5 a)) <| (xk (l5 b)) <| (W) ?_; clear h ac; intro ac wo h
 exact ret h rfl (.tmp rfl (.tmp rfl (.tmp rfl .nil))) rfl (h.retP (by unfold gA; rfl) trivial)
theorem lG {a b:Nat} (h:(gA a b).2.2=true):a < 18446744073709551616∧b < 18446744073709551616∧gA a b=(a,b,true):=by
 unfold gA at *
 rw [uZ a,uZ b] at *
 split at h <;> split at h <;> simp_all
theorem dz (u:Nat) (hu:u < 18446744073709551616) (w0:World):Calls Tryz.prog 202 #[(.int .u64 ((u:Nat):Int))] w0 (dh w0 (.string (bs (bK u))) (True)):=by
 refine enter (N:=30) (args:=[(.int .u64 ((u:Nat):Int))]) Tryz.func202 rfl rfl ?_; intro ac h
 refine qD fun K1 hK1=>?_
 refine rd0 h (aA rfl) rfl <| gn hK1 <| gq fun K2 hK2=>gr fun K3 hK3=>g0 (ay rfl) rfl <| g0 (ur rfl rfl) rfl <| gn hK3 ?_; clear h ac; intro ac wo h
 refine ku h rfl (fun hc1=>?_) (fun hc1=>?_)
 ·
  have hd1:=eq_of_beq hc1
  refine gz h <| gr fun K4 hK4=>g0 (aA rfl) rfl <| gn hK4 <| gT ?_; clear h ac wo; intro ac wo h
  have hd:bK u=0:=(by unfold bK; omega)
  exact (rt h) (h.retP (by rw [hd] <;> rfl) trivial)
 ·
  have hd1:=ne_of_beq_false hc1
  refine gz h <| gS <| gx hK2 <| gr fun K5 hK5=>g0 (ay rfl) rfl <| gl Tryz.call272 rfl (wk u (by assumption)) rfl <| g0 (eV rfl rfl (r:=(((Lib.bitLen u)+7:Nat):Int)) (by have:=qp hu; rw [IntKind.wrap_i64]; omega)) rfl <| g0 (oV rfl rfl (r:=(((le u).length:Nat):Int)) (by first | decide | omega) (by have h1:=qp hu; have h2:=me u hu; rw [Int.tdiv_eq_ediv_of_nonneg og,IntKind.wrap_i64]; omega)) rfl <| g0 (aA rfl) rfl <| gn hK5 <| gr fun K6 hK6=>ga (flat (List.replicate 8 (0:UInt8))) Tryz.zeroValue338 rfl rfl fun b1=>gn hK6 <| gq fun K7 hK7=>gr fun K8 hK8=>g0 (ay rfl) rfl <| g0 (ay rfl) rfl <| gn hK8 <| gB ?_; clear h ac wo; intro ac wo h
  have hL:(le u).length≤8:=(cS 8 u).2 hu
  have hp:0 < u:=by omega
  have hLp:0 < (le u).length:=by rw [lr hp]; simp
  refine wp_loop_ghost (fun n_ a_ w_=>∃ (i:Nat) (bl:List UInt8),n_=(le u).length - i∧(i≤(le u).length)∧(Mag u (le u).length i bl)∧St w0 30 [(0,(.int .u64 ((u:Nat):Int))),(3,(.int .i64 (((le u).length:Nat):Int))),(4,(ptr b1 0)),(12,(.int .i64 (((le u).length:Nat):Int))),(13,(.int .i64 ((i:Nat):Int)))] [.blk b1 (flat bl) 338] a_ w_) _ ⟨0,(List.replicate 8 (0:UInt8)),rfl,og,(Mag.zero _ _),h.re [0]⟩ ?_
  clear h ac wo; rintro _ ac wo ⟨i,bl,rfl,hi,hM,h⟩
  refine gz h <| gr fun K9 hK9=>g0 (jT rfl rfl) rfl <| gn hK9 <| gq fun K10 hK10=>?_; clear h ac wo; intro ac wo h
  refine ku h rfl (fun hc2=>?_) (fun hc2=>?_)
  ·
   have hd2:=of_decide_eq_true hc2
   refine gz h <| gS <| gx hK10 <| gq fun K11 hK11=>gB <| gr fun K12 hK12=>g0 (ay rfl) rfl <| g0 (aA rfl) rfl <| gn hK12 <| gR ?_; clear h ac wo; intro ac wo h
   have hlt:i < (le u).length:=by omega
   refine rd0 h (ay rfl) rfl <| g0 (fv rfl rfl (r:=(((le u).length - 1:Nat):Int)) (by rw [IntKind.wrap_i64]; omega)) rfl <| g0 (ay rfl) rfl <| g0 (fv rfl rfl (r:=(((le u).length - 1 - i:Nat):Int)) (by rw [IntKind.wrap_i64]; omega)) rfl <| g0 (ay rfl) rfl <| g0 (ay rfl) rfl <| g0 (lD rfl rfl (r:=((8*i:Nat):Int)) (by rw [IntKind.wrap_i64]; omega)) rfl <| g0 (ng rfl rfl (r:=((u / 256 ^ i:Nat):Int)) og (by simp [IntKind.bits] <;> omega) (by rw [show (((8*i:Nat):Int)).toNat=8*i by omega,yu]; simp)) rfl <| g0 (a8 uu260 uu5 rfl (r:=((UInt8.ofNat (u / 256 ^ i % 256)).toNat:Int)) (by rw [IntKind.wrap_u8,UInt8.toNat_ofNat']; omega)) rfl <| g0 (r_iaA (i:=((le u).length - 1 - i)) uu338 zz5 rfl rfl og) rfl ?_; clear h ac wo; intro ac wo h
   refine up h 0 rfl (s_stA zz5 rfl rfl rfl (by rw [hM.1]; omega)) ?_; clear h ac wo; intro ac wo h
   refine gz h <| gx (fun _ _=>fW) <| gN <| gx hK11 <| gR <| g0 (eV rfl rfl (r:=((i+1:Nat):Int)) (by rw [IntKind.wrap_i64]; omega)) rfl <| g0 (ay rfl) rfl <| gx (fun _ _=>fW) ?_; clear h ac wo; intro ac wo h
   exact az ⟨_,og,i+1,_,rfl,og,(hM.next og hL),h.re [0]⟩
  ·
   have hd2:=of_decide_eq_false hc2
   refine kd ?_
   refine hK7 _ _ ?_
   refine qD fun K13 hK13=>?_
   have hie:i=(le u).length:=by omega
   subst hie
   refine rd0 h (ay rfl) rfl <| g0 (r_sliceA (n:=(le u).length) uu338 zz5 rfl rfl hL) rfl <| g1 0 rfl (r_strA (l:=(le u).reverse) nn339 nn5 nn9 rfl (hM.flat rfl hL) (by simp)) rfl <| g0 (aA rfl) rfl <| gn hK13 <| gT ?_; clear h ac wo; intro ac wo h
   exact (rt h) (h.retP (by unfold bK; rfl) trivial)
theorem d7 (m:Nat) (hm:(le m).length≤70368744177664) (w0:World):Calls Tryz.prog 273 #[(.string (bs m))] w0 (RetR w0 343 (mD m) (True)):=by
 refine enter (N:=38) (args:=[(.string (bs m))]) Tryz.func273 rfl rfl ?_; intro ac h
 refine qD fun K1 hK1=>?_
 refine rd0 h (aA rfl) rfl <| gn hK1 <| gr fun K2 hK2=>g0 (ay rfl) rfl <| g0 (lM uu9 rfl) rfl <| g0 (eV rfl rfl (r:=(((bs m).size+3:Nat):Int)) (by rw [fm,IntKind.wrap_i64]; omega)) rfl <| g0 (oV rfl rfl (r:=((dn m:Nat):Int)) (by first | decide | omega) (by rw [Int.tdiv_eq_ediv_of_nonneg og,IntKind.wrap_i64,fm]; unfold dn; omega)) rfl ?_; clear h ac; intro ac wo h
 refine nw h (mu (n:=(dn m)) ((0:Nat)) rfl pE rfl rfl rfl (by unfold dn; omega) (by unfold dn; omega)) rfl ?_; clear h ac wo; intro sv1 ac wo nnsv1 h
 refine rd0 h (aA rfl) rfl <| gn hK2 <| gq fun K3 hK3=>gr fun K4 hK4=>g0 (ay rfl) rfl <| g0 (lM uu9 rfl) rfl <| g0 (ay rfl) rfl <| gn hK4 <| gB ?_; clear h ac wo; intro ac wo h
 have hz0:List.replicate (dn m) 0=dgs (dn m) (m % 256 ^ 0):=by rw [show m % 256 ^ 0=0 by simp [Nat.mod_one]]; exact (nH _).symm
 rw [hz0] at h
 refine wp_loop_ghost (fun n_ a_ w_=>∃ (i:Nat),n_=(le m).length - i∧(i≤(le m).length)∧St w0 38 [(0,(.string (bs m))),(3,sv1),(12,(.int .i64 ((bs m).size:Int))),(13,(.int .i64 ((i:Nat):Int)))] [.row (α:=Nat) 343 sv1 (dgs (dn m) (m % 256 ^ i))] a_ w_) _ ⟨0,rfl,og,h.re [0]⟩ ?_
 clear h ac wo; rintro _ ac wo ⟨i,rfl,hi,h⟩
 refine gz h <| gr fun K5 hK5=>g0 (jT rfl rfl) rfl <| gn hK5 <| gq fun K6 hK6=>?_; clear h ac wo; intro ac wo h
 refine ku h rfl (fun hc1=>?_) (fun hc1=>?_)
 ·
  have hd1:=of_decide_eq_true hc1
  refine gz h <| gS <| gx hK6 <| gq fun K7 hK7=>gB <| gr fun K8 hK8=>g0 (ay rfl) rfl <| g0 (aA rfl) rfl <| gn hK8 <| gr fun K9 hK9=>g0 (ay rfl) rfl <| g0 (lM uu9 rfl) rfl <| g0 (fv rfl rfl (r:=(((bs m).size - 1:Nat):Int)) (by rw [fm] at hd1 ⊢; rw [IntKind.wrap_i64]; omega)) rfl <| g0 (ay rfl) rfl <| g0 (fv rfl rfl (r:=(((le m).length - 1 - i:Nat):Int)) (by rw [fm] at hd1 ⊢; rw [IntKind.wrap_i64]; omega)) rfl <| g0 (aA rfl) rfl <| gn hK9 ?_; clear h ac wo; intro ac wo h
  have hlt:i < (le m).length:=by rw [fm] at hd1; omega
  have hq:i / 4 < dn m:=by unfold dn; omega
  have hu:(dgs (dn m) (m % 256 ^ i))[i / 4]?=some (m % 256 ^ i / 4294967296 ^ (i / 4) % 4294967296):=d9 hq
  have hbg:=aag (n:=m) (i:=(le m).length - 1 - i) (by rw [fm]; omega)
  rw [show (le m).length - 1 - ((le m).length - 1 - i)=i by omega] at hbg
  have hbs:=rc m i
  refine fU mixed [⟨.det sv1,[]⟩,⟨.det (.int .i64 ((i:Nat):Int)),[]⟩,⟨.det (.int .i64 ((i / 4:Nat):Int)),[]⟩,⟨.det (sel sv1 ((i / 4)*1)),[]⟩,⟨.det (.int .u32 (((m % 256 ^ i / 4294967296 ^ (i / 4) % 4294967296):Nat):Int)),[0]⟩,⟨.det (.string (bs m)),[]⟩,⟨.det (.int .i64 (((le m).length - 1 - i:Nat):Int)),[]⟩,⟨.det (.int .u8 (((bs m)[((le m).length - 1 - i)]'(by rw [fm]; omega)).toNat:Int)),[]⟩,⟨.det (.int .u32 (((m / 256 ^ i % 256):Nat):Int)),[]⟩,⟨.det (.int .i64 ((i:Nat):Int)),[]⟩,⟨.det (.int .i64 ((i % 4:Nat):Int)),[]⟩,⟨.det (.int .i64 ((8*(i % 4):Nat):Int)),[]⟩,⟨.det (.int .u32 (((m / 256 ^ i % 256*2 ^ (8*(i % 4))):Nat):Int)),[]⟩,⟨.det (.int .u32 (((m % 256 ^ i / 4294967296 ^ (i / 4) % 4294967296)+(m / 256 ^ i % 256*2 ^ (8*(i % 4))):Nat):Int)),[]⟩,⟨.det (sel sv1 ((i / 4)*1)),[]⟩,⟨.det undef,[0]⟩] [⟨.row (α:=Nat) 343 sv1 (dgs (dn m) (m % 256 ^ i)),[(15,.con (.row (α:=Nat) 343 sv1 ((dgs (dn m) (m % 256 ^ i)).set (i / 4) ((m % 256 ^ i / 4294967296 ^ (i / 4) % 4294967296)+(m / 256 ^ i % 256*2 ^ (8*(i % 4)))))))]⟩] h rfl (by kernel_rfl) ⟨fun _ _=>bk (ay rfl),fun _ _=>bk (ay rfl),fun _ _=>bk (oV rfl rfl (r:=((i / 4:Nat):Int)) (by first | decide | omega) (by rw [Int.tdiv_eq_ediv_of_nonneg og,IntKind.wrap_i64]; omega)),fun _ _=>bk (iT (i:=(i / 4)) uu341 zz343 rfl rfl (h.dnn 0 rfl og) hq),fun _ _=>jB [.row (α:=Nat) 343 sv1 (dgs (dn m) (m % 256 ^ i))] rfl rfl (iM (k:=0) aa343 zz343 hu rfl (Nat.add_zero _) rfl rfl (v:=(.int .u32 (((m % 256 ^ i / 4294967296 ^ (i / 4) % 4294967296):Nat):Int))) rfl),fun _ _=>bk (ay rfl),fun _ _=>bk (ay rfl),fun _ _=>bk (nh (i:=((le m).length - 1 - i)) uu9 rfl rfl (by rw [fm]; omega)),fun _ _=>bk (a8 uu5 uu343 rfl (r:=(((m / 256 ^ i % 256):Nat):Int)) (by rw [hbg,IntKind.wrap_u32]; omega)),fun _ _=>bk (ay rfl),fun _ _=>bk (ru rfl rfl (r:=((i % 4:Nat):Int)) (by first | decide | omega) (by rw [Int.tmod_eq_emod_of_nonneg og]; omega)),fun _ _=>bk (lD rfl rfl (r:=((8*(i % 4):Nat):Int)) (by first | (rw [IntKind.wrap_i64]; omega) | exact iG og og)),fun _ _=>bk (sS rfl rfl (r:=(((m / 256 ^ i % 256*2 ^ (8*(i % 4))):Nat):Int)) og (by simp [IntKind.bits] <;> omega) (wshl32 og hbs.1)),fun _ _=>bk (uo rfl rfl (r:=(((m % 256 ^ i / 4294967296 ^ (i / 4) % 4294967296)+(m / 256 ^ i % 256*2 ^ (8*(i % 4))):Nat):Int)) (nL _ _ (tR m i).1 hbs.1 (Nat.mod_lt _ (by decide)))),fun _ _=>bk (iT (i:=(i / 4)) uu341 zz343 rfl rfl (h.dnn 0 rfl og) hq),fun _ _=>lS [.row (α:=Nat) 343 sv1 (dgs (dn m) (m % 256 ^ i))] [.row (α:=Nat) 343 sv1 ((dgs (dn m) (m % 256 ^ i)).set (i / 4) ((m % 256 ^ i / 4294967296 ^ (i / 4) % 4294967296)+(m / 256 ^ i % 256*2 ^ (8*(i % 4)))))] rfl rfl (g5 (k:=0) (u':=((m % 256 ^ i / 4294967296 ^ (i / 4) % 4294967296)+(m / 256 ^ i % 256*2 ^ (8*(i % 4))))) zz343 hu rfl rfl rfl rfl rfl rfl rfl rfl),trivial⟩ ?_
  clear h ac wo; intro ξ ac wo hφ h
  replace h:St w0 38 [(0,(.string (bs m))),(3,sv1),(12,(.int .i64 ((bs m).size:Int))),(13,(.int .i64 ((i:Nat):Int)))] [.row (α:=Nat) 343 sv1 ((dgs (dn m) (m % 256 ^ i)).set (i / 4) ((m % 256 ^ i / 4294967296 ^ (i / 4) % 4294967296)+(m / 256 ^ i % 256*2 ^ (8*(i % 4)))))] ac wo:=h.sub ⟨rfl,rfl,rfl,rfl,trivial⟩
  clear hφ ξ
  refine gz h <| gN <| gx hK7 <| gR <| g0 (eV rfl rfl (r:=((i+1:Nat):Int)) (by rw [IntKind.wrap_i64]; omega)) rfl <| g0 (ay rfl) rfl <| gx (fun _ _=>fW) ?_; clear h ac wo; intro ac wo h
  rw [dig_next] at h
  exact az ⟨_,og,i+1,rfl,og,h.re [0]⟩
 ·
  have hd1:=of_decide_eq_false hc1
  refine gz h <| gE <| gx hK3 <| gr fun K10 hK10=>g0 (ay rfl) rfl <| g0 (aA rfl) rfl <| gn hK10 <| gT ?_; clear h ac wo; intro ac wo h
  have hd:mD m=(dgs (dn m) (m % 256 ^ i)):=(by rw [show i=(le m).length by rw [fm] at hd1; omega,Nat.mod_eq_of_lt (qz m)]; rfl)
  exact (rt h) (by rw [hd]; exact h.retR 0 rfl trivial)
theorem mM (nx vx:Nat) (xv:Value) (hv:vx < 4294967296 ^ nx) (w0:World) (hxv:View w0 xv (dgs nx vx)):Calls Tryz.prog 310 #[xv] w0 (dh w0 (nP xv (dn vx)) (True)):=by
 refine enter (N:=21) (args:=[xv]) Tryz.func310 rfl rfl ?_; intro ac h
 have hml:=dlen_le hxv; simp only [maxLen] at hml
 refine qD fun K1 hK1=>?_
 refine rd0 h (aA rfl) rfl <| gn hK1 <| gq fun K2 hK2=>gB ?_; clear h ac; intro ac wo h
 refine wp_loop_ghost (fun n_ a_ w_=>∃ (m:Nat),n_=1*m∧(m≤nx)∧(vx < 4294967296 ^ m)∧St w0 21 [(0,(nP xv m))] [] a_ w_) _ ⟨nx,rfl,(Nat.le_refl _),hv,(h.pick [] (by decide)).sub ⟨(congrArg some (qj hxv.dsl).symm),trivial⟩⟩ ?_
 clear h ac wo; rintro _ ac wo ⟨m,rfl,hn,hvn,h⟩
 have hcv:=hxv.cutn hn
 refine gz h <| gq fun K3 hK3=>gr fun K4 hK4=>g0 (ay rfl) rfl <| g0 (g9 uu341 rfl hcv.dsl) rfl <| g0 (r_gtr rfl rfl) rfl <| g0 (ay rfl) rfl <| ge1 rfl rfl (fun hg=>(Rd.of_nil (ay rfl)).step) rfl <| ge1 rfl rfl (fun hg=>(Rd.of_nil (ay rfl)).step) rfl <| ge1 rfl rfl (fun hg=>(Rd.of_nil (g9 uu341 (gC rfl hg) hcv.dsl)).step) rfl <| ge1 rfl rfl (fun hg=>(Rd.of_nil (fv (gC rfl hg) rfl (r:=((m - 1:Nat):Int)) (by simp only [Bool.and_eq_true,decide_eq_true_eq,beq_iff_eq,Bool.true_and,Bool.not_eq_true',decide_eq_false_iff_not] at hg; rw [IntKind.wrap_i64]; omega))).step) rfl <| ge1 rfl rfl (fun hg=>(Rd.of_nil (iT (i:=(m - 1)) uu341 zz343 (gC rfl hg) (gC rfl hg) (hcv.dnn (by simp only [Bool.and_eq_true,decide_eq_true_eq,beq_iff_eq,Bool.true_and,Bool.not_eq_true',decide_eq_false_iff_not] at hg; omega)) (by simp only [Bool.and_eq_true,decide_eq_true_eq,beq_iff_eq,Bool.true_and,Bool.not_eq_true',decide_eq_false_iff_not] at hg; omega))).step) rfl <| ge1 rfl rfl (fun hg=>(Rd.of_nil (oW (k:=0) aa343 zz343 hcv (d9 (n:=m) (by simp only [Bool.and_eq_true,decide_eq_true_eq,beq_iff_eq,Bool.true_and,Bool.not_eq_true',decide_eq_false_iff_not] at hg; omega)) (gC rfl hg) (Nat.add_zero _) rfl rfl (v:=(.int .u32 (((vx / 4294967296 ^ (m - 1) % 4294967296):Nat):Int))) rfl)).step) rfl <| ge1 rfl rfl (fun hg=>(Rd.of_nil (ur (gC rfl hg) rfl)).step) rfl <| g0 (r_and rfl (fun e=>(gC rfl e))) rfl <| gn hK4 ?_; clear h ac wo; intro ac wo h
 refine ku h rfl (fun hc1=>?_) (fun hc1=>?_)
 ·
  have hq:=hc1
  simp only [Bool.and_eq_true,Bool.and_eq_false_iff,decide_eq_true_eq,decide_eq_false_iff_not,beq_iff_eq,beq_eq_false_iff_ne,ne_eq] at hq
  refine gz h <| gS <| gx hK3 <| gB <| gR <| g0 (ay rfl) rfl <| g0 (ay rfl) rfl <| g0 (g9 uu341 rfl hcv.dsl) rfl <| g0 (fv rfl rfl (r:=((m - 1:Nat):Int)) (by rw [IntKind.wrap_i64]; omega)) rfl <| g0 (r_cut (n:=(m - 1)) uu341 zz343 rfl rfl hcv (by rw [cX]; omega)) rfl <| g0 (aA rfl) rfl <| gx (fun _ _=>fW) <| gN ?_; clear h ac wo; intro ac wo h
  exact az ⟨_,og,m - 1,rfl,og,(xG hvn og og),(h.pick [] (by decide)).sub ⟨(congrArg some (cutv_cut hxv.dsl)),trivial⟩⟩
 ·
  have hq:=hc1
  simp only [Bool.and_eq_true,Bool.and_eq_false_iff,decide_eq_true_eq,decide_eq_false_iff_not,beq_iff_eq,beq_eq_false_iff_ne,ne_eq] at hq
  have hdn:dn vx=m:=xH hvn og
  refine gz h <| gE <| gx hK2 <| gr fun K5 hK5=>g0 (ay rfl) rfl <| g0 (aA rfl) rfl <| gn hK5 <| gT ?_; clear h ac wo; intro ac wo h
  exact (rt h) (h.retP (by rw [hdn]; rfl) trivial)
theorem eU (nx vx:Nat) (xv:Value) (hv:vx < 4294967296 ^ nx) (hb:nx≤35184372088832) (w0:World) (hxv:View w0 xv (dgs nx vx)):Calls Tryz.prog 275 #[xv] w0 (dh w0 (.string (bs vx)) (True)):=by
 refine enter (N:=46) (args:=[xv]) Tryz.func275 rfl rfl ?_; intro ac h
 have hml:=(r6 vx nx).2 hv
 refine qD fun K1 hK1=>?_
 refine rd0 h (aA rfl) rfl <| gn hK1 <| gr fun K2 hK2=>g0 (ay rfl) rfl ?_; clear h ac; intro ac wo h
 refine clq h Tryz.call310 (vs:=[xv]) rfl (fun w_ hB_ hS_=>mM nx vx xv hv w_ (hxv.below hB_)) rfl ?_; clear h ac wo; intro ac wo h
 refine rd0 h (aA rfl) rfl <| gn hK2 <| gq fun K3 hK3=>gr fun K4 hK4=>g0 (ay rfl) rfl <| g0 (g9 uu341 rfl (hxv.cutd hv).dsl) rfl <| g0 (ur rfl rfl) rfl <| gn hK4 ?_; clear h ac wo; intro ac wo h
 refine ku h rfl (fun hc1=>?_) (fun hc1=>?_)
 ·
  have hd1:=eq_of_beq hc1
  refine gz h <| gr fun K5 hK5=>g0 (aA rfl) rfl <| gn hK5 <| gT ?_; clear h ac wo; intro ac wo h
  have hd:vx=0:=(by have:=(r6 vx 0).1 og; rw [Nat.pow_zero] at this; omega)
  exact (rt h) (h.retP (by rw [hd] <;> rfl) trivial)
 ·
  have hd1:=ne_of_beq_false hc1
  refine gz h <| gS <| gx hK3 <| gr fun K6 hK6=>g0 (ay rfl) rfl <| g0 (g9 uu341 rfl (hxv.cutd hv).dsl) rfl <| g0 (lD rfl rfl (r:=(((4*dn vx):Nat):Int)) (by first | (rw [IntKind.wrap_i64]; omega) | exact iG og og)) rfl ?_; clear h ac wo; intro ac wo h
  refine nw h (mu (n:=(4*dn vx)) ((0:UInt8)) rfl xU rfl rfl rfl og og) rfl ?_; clear h ac wo; intro sv1 ac wo nnsv1 h
  refine rd0 h (aA rfl) rfl <| gn hK6 <| gq fun K7 hK7=>gr fun K8 hK8=>g0 (ay rfl) rfl <| g0 (g9 uu341 rfl (hxv.cutd hv).dsl) rfl <| g0 (ay rfl) rfl <| gn hK8 <| gB ?_; clear h ac wo; intro ac wo h
  rw [z8 _ vx] at h
  refine wp_loop_ghost (fun n_ a_ w_=>∃ (i:Nat),n_=dn vx - i∧(i≤dn vx)∧St w0 46 [(3,sv1),(16,(nP xv (dn vx))),(17,(.int .i64 (((dn vx):Nat):Int))),(18,(.int .i64 ((i:Nat):Int)))] [.row (α:=UInt8) 5 sv1 (bz (4*dn vx) (4*i) vx)] a_ w_) _ ⟨0,rfl,og,h.re [0]⟩ ?_
  clear h ac wo; rintro _ ac wo ⟨i,rfl,hi,h⟩
  refine gz h <| gr fun K9 hK9=>g0 (jT rfl rfl) rfl <| gn hK9 <| gq fun K10 hK10=>?_; clear h ac wo; intro ac wo h
  refine ku h rfl (fun hc2=>?_) (fun hc2=>?_)
  ·
   have hd2:=of_decide_eq_true hc2
   refine gz h <| gS <| gx hK10 <| gq fun K11 hK11=>gB <| gr fun K12 hK12=>g0 (ay rfl) rfl <| g0 (iT (i:=i) uu341 zz343 rfl rfl ((hxv.cutd hv).dnn og) og) rfl <| g0 (oW (k:=0) aa343 zz343 (hxv.cutd hv) (d9 (n:=(dn vx)) og) rfl (Nat.add_zero _) rfl rfl (v:=(.int .u32 (((vx / 4294967296 ^ i % 4294967296):Nat):Int))) rfl) rfl <| g0 (aA rfl) rfl <| g0 (aA rfl) rfl <| gn hK12 <| gr fun K13 hK13=>g0 (ay rfl) rfl <| gn hK13 <| gB ?_; clear h ac wo; intro ac wo h
   refine wp_loop_ghost (fun n_ a_ w_=>∃ (k:Nat),n_=4 - k∧(k≤4)∧St w0 46 [(3,sv1),(16,(nP xv (dn vx))),(17,(.int .i64 (((dn vx):Nat):Int))),(18,(.int .i64 ((i:Nat):Int))),(4,(.int .i64 ((i:Nat):Int))),(5,(.int .u32 (((vx / 4294967296 ^ i % 4294967296):Nat):Int))),(23,(.int .i64 ((k:Nat):Int)))] [.row (α:=UInt8) 5 sv1 (bz (4*dn vx) (4*i+k) vx)] a_ w_) _ ⟨0,rfl,og,h.re [0]⟩ ?_
   clear h ac wo; rintro _ ac wo ⟨k,rfl,hk,h⟩
   refine gz h <| gr fun K14 hK14=>g0 (jT rfl rfl) rfl <| gn hK14 <| gq fun K15 hK15=>?_; clear h ac wo; intro ac wo h
   refine ku h rfl (fun hc3=>?_) (fun hc3=>?_)
   ·
    have hd3:=of_decide_eq_true hc3
    refine gz h <| gS <| gx hK15 <| gq fun K16 hK16=>gB <| gr fun K17 hK17=>g0 (ay rfl) rfl <| g0 (aA rfl) rfl <| gn hK17 <| gR <| g0 (ay rfl) rfl <| g0 (ay rfl) rfl <| g0 (g9 uu339 rfl nnsv1.sl) rfl <| g0 (fv rfl rfl (r:=((4*dn vx - 1:Nat):Int)) (by rw [IntKind.wrap_i64]; omega)) rfl <| g0 (ay rfl) rfl <| g0 (lD rfl rfl (r:=((4*i:Nat):Int)) (by first | (rw [IntKind.wrap_i64]; omega) | exact iG og og)) rfl <| g0 (fv rfl rfl (r:=((4*dn vx - 1 - 4*i:Nat):Int)) (by rw [IntKind.wrap_i64]; omega)) rfl <| g0 (ay rfl) rfl <| g0 (fv rfl rfl (r:=(((4*dn vx - 1 - (4*i+k)):Nat):Int)) (by rw [IntKind.wrap_i64]; omega)) rfl <| g0 (ay rfl) rfl <| g0 (ay rfl) rfl <| g0 (lD rfl rfl (r:=((8*k:Nat):Int)) (by first | (rw [IntKind.wrap_i64]; omega) | exact iG og og)) rfl <| g0 (ng rfl rfl (r:=(((vx / 4294967296 ^ i % 4294967296 / 256 ^ k):Nat):Int)) og (by simp [IntKind.bits] <;> omega) (by rw [show (((8*k:Nat):Int)).toNat=8*k by omega,yu]; simp)) rfl <| g0 (a8 uu343 uu5 rfl (r:=((UInt8.ofNat ((vx / 4294967296 ^ i % 4294967296 / 256 ^ k) % 256)).toNat:Int)) (by rw [IntKind.wrap_u8,UInt8.toNat_ofNat']; omega)) rfl <| g0 (iT (i:=(4*dn vx - 1 - (4*i+k))) uu339 zz5 rfl rfl nnsv1 og) rfl ?_; clear h ac wo; intro ac wo h
    refine up h 0 rfl (g5 (k:=0) (u':=(UInt8.ofNat ((vx / 4294967296 ^ i % 4294967296 / 256 ^ k) % 256))) zz5 (rb og) rfl rfl rfl rfl rfl rfl rfl rfl) ?_; clear h ac wo; intro ac wo h
    replace h:=h.rowEq 0 rfl (aaa og (by rw [w7 _ _ _ og]))
    refine gz h <| gx (fun _ _=>fW) <| gN <| gx hK16 <| gR <| g0 (eV rfl rfl (r:=((k+1:Nat):Int)) (by rw [IntKind.wrap_i64]; omega)) rfl <| g0 (ay rfl) rfl <| gx (fun _ _=>fW) ?_; clear h ac wo; intro ac wo h
    exact az ⟨_,og,k+1,rfl,og,h.re [0]⟩
   ·
    have hd3:=of_decide_eq_false hc3
    refine kd ?_
    refine hK11 _ _ ?_
    refine c_r ?_
    rw [show 4*i+k=4*(i+1) by omega] at h
    refine rd0 h (eV rfl rfl (r:=((i+1:Nat):Int)) (by rw [IntKind.wrap_i64]; omega)) rfl <| g0 (ay rfl) rfl <| gx (fun _ _=>fW) ?_; clear h ac wo; intro ac wo h
    exact az ⟨_,og,i+1,rfl,og,h.re [0]⟩
  ·
   have hd2:=of_decide_eq_false hc2
   refine kd ?_
   refine hK7 _ _ ?_
   refine qD fun K18 hK18=>?_
   have hie:i=dn vx:=by omega
   subst hie
   have h256:vx < 256 ^ (4*dn vx):=dn_pow.1 (i5 vx)
   refine rd0 h (ay rfl) rfl <| g1 0 rfl (r_str nn339 nn5 nn9 rfl) rfl <| gl Tryz.call311 rfl (tl_bs h256) rfl <| g0 (aA rfl) rfl <| gn hK18 <| gT ?_; clear h ac wo; intro ac wo h
   have hd:vx=vx:=rfl
   exact (rt h) (h.retP (by rw [hd] <;> rfl) trivial)
def gD (x:Int):Bool :=
 (x != x)
theorem lx (x:Int) (w0:World):Calls Tryz.prog 270 #[(.int .i64 x)] w0 (dh w0 (.bool (gD x)) (True)):=by
 refine enter (N:=6) (args:=[(.int .i64 x)]) Tryz.func270 rfl rfl ?_; intro ac h
 refine gz h <| (W) ?_; clear h ac; intro ac wo h
 exact (rt h) (h.retP (by unfold gD; rfl) trivial)
def bN (x:Int) (y:Int):Int :=
 bif (gD x) then
  bif (gD y) then
   0
  else
   (-1)
 else
  bif (gD y) then
   1
  else
   bif (decide (x < y)) then
    (-1)
   else
    bif (decide (x>y)) then
     1
    else
     0
theorem kW (x:Int) (y:Int) (w0:World):Calls Tryz.prog 196 #[(.int .i64 x),(.int .i64 y)] w0 (dh w0 (.int .i64 (bN x y)) ((-1≤(bN x y)∧(bN x y)≤1))):=by
 refine enter (N:=20) (args:=[(.int .i64 x),(.int .i64 y)]) Tryz.func196 rfl rfl ?_; intro ac h
 refine gz h <| (xk (lx x)) <| (xk (lx y)) <| (ai) ?_ ?_ <;> clear h ac <;> intro ac wo h hc1
 ·
  refine gz h <| (ai) ?_ ?_ <;> clear h ac wo <;> intro ac wo h hc2
  ·
   have hd:bN x y=0:=pt
   refine gz h <| (W) ?_; clear h ac wo; intro ac wo h
   exact (rt h) (h.retP (by rw [hd] <;> rfl) (by rw [hd]; exact by first | omega | exact fQ og og))
  ·
   have hd:bN x y=(-1):=pt
   refine gz h <| (W) ?_; clear h ac wo; intro ac wo h
   exact (rt h) (h.retP (by rw [hd] <;> rfl) (by rw [hd]; exact by first | omega | exact fQ og og))
 ·
  refine gz h <| (ai) ?_ ?_ <;> clear h ac wo <;> intro ac wo h hc3
  ·
   have hd:bN x y=1:=pt
   refine gz h <| (W) ?_; clear h ac wo; intro ac wo h
   exact (rt h) (h.retP (by rw [hd] <;> rfl) (by rw [hd]; exact by first | omega | exact fQ og og))
  ·
   refine gz h <| (ai) ?_ ?_ <;> clear h ac wo <;> intro ac wo h hc4
   ·
    have hd4:=of_decide_eq_true hc4
    have hd:bN x y=(-1):=pt
    refine gz h <| (W) ?_; clear h ac wo; intro ac wo h
    exact (rt h) (h.retP (by rw [hd] <;> rfl) (by rw [hd]; exact by first | omega | exact fQ og og))
   ·
    have hd4:=of_decide_eq_false hc4
    refine gz h <| (ai) ?_ ?_ <;> clear h ac wo <;> intro ac wo h hc5
    ·
     have hd5:=of_decide_eq_true hc5
     have hd:bN x y=1:=pt
     refine gz h <| (W) ?_; clear h ac wo; intro ac wo h
     exact (rt h) (h.retP (by rw [hd] <;> rfl) (by rw [hd]; exact by first | omega | exact fQ og og))
    ·
     have hd5:=of_decide_eq_false hc5
     have hd:bN x y=0:=pt
     refine gz h <| (W) ?_; clear h ac wo; intro ac wo h
     exact (rt h) (h.retP (by rw [hd] <;> rfl) (by rw [hd]; exact by first | omega | exact fQ og og))
theorem zY (x y:Int):bN x y=if x < y then -1 else if x>y then 1 else 0:=by
 unfold bN gD
 by_cases h1:x < y
 · simp [h1]
 · by_cases h2:y < x
   · simp [h1,h2]
   · simp [h1,h2]
theorem nC (a b:Nat):-1≤bn a b∧bn a b≤1:=by
 unfold bn
 cases Nat.blt a b <;> cases Nat.beq a b <;> simp
theorem zV (a b:Nat):or2 (bN ((bs a).size:Int) ((bs b).size:Int)) (Lib.compareBytes (bs a).data.toList (bs b).data.toList)=bn a b:=by
 rw [zY,← zU]
 congr 1
 simp
theorem se (u v:Int) (xv:Value) (w0:World) (hxv:View w0 xv [u,v]):Calls Tryz.prog 249 #[xv] w0 (dh w0 (.int .i64 (or2 u v)) (True)):=by
 refine enter (N:=18) (args:=[xv]) Tryz.func249 rfl rfl ?_; intro ac h
 refine qD fun K1 hK1=>?_
 refine rd0 h (aA rfl) rfl <| gn hK1 <| gr fun K2 hK2=>g0 (aA rfl) rfl <| gn hK2 <| gq fun K3 hK3=>gr fun K4 hK4=>g0 (ay rfl) rfl <| g0 (g9 uu245 rfl hxv.sl) rfl <| g0 (ay rfl) rfl <| gn hK4 <| gB ?_; clear h ac; intro ac wo h
 refine wp_loop_ghost (fun n_ a_ w_=>∃ (i:Nat),n_=2 - i∧(i≤2)∧(0 < i→u=0)∧(1 < i→v=0)∧St w0 18 [(3,(.int .i64 0)),(6,xv),(7,(.int .i64 ((2:Nat):Int))),(8,(.int .i64 ((i:Nat):Int)))] [] a_ w_) _ ⟨0,rfl,og,(fun h=>absurd h (by decide)),(fun h=>absurd h (by decide)),h.re []⟩ ?_
 clear h ac wo; rintro _ ac wo ⟨i,rfl,hi,hu,hv,h⟩
 refine gz h <| gr fun K5 hK5=>g0 (jT rfl rfl) rfl <| gn hK5 <| gq fun K6 hK6=>?_; clear h ac wo; intro ac wo h
 refine ku h rfl (fun hc1=>?_) (fun hc1=>?_)
 ·
  have hd1:=of_decide_eq_true hc1
  refine gz h <| gS <| gx hK6 <| gq fun K7 hK7=>gB <| gr fun K8 hK8=>g0 (iT (i:=i) uu245 zz3 rfl rfl (show NN xv 2 from hxv.nn (i:=0) (by simp)) og) rfl <| g0 (oW (k:=0) Tryz.isAgg3 zz3 hxv (two_get og) rfl (Nat.add_zero _) rfl rfl (v:=(.int .i64 (if i=0 then u else v))) rfl) rfl <| g0 (aA rfl) rfl <| gn hK8 <| gr fun K9 hK9=>g0 (ay rfl) rfl <| g0 (ay rfl) rfl <| g0 (r_neq rfl rfl) rfl <| gn hK9 ?_; clear h ac wo; intro ac wo h
  refine ku h rfl (fun hc2=>?_) (fun hc2=>?_)
  ·
   have hd2:=hc2; simp only [bne_iff_ne,ne_eq] at hd2
   refine gz h <| gr fun K10 hK10=>g0 (ay rfl) rfl <| g0 (aA rfl) rfl <| gn hK10 <| gT ?_; clear h ac wo; intro ac wo h
   have hd:or2 u v=(if i=0 then u else v):=(by unfold or2; split at hd2 <;> split <;> simp_all)
   exact (rt h) (h.retP (by rw [hd] <;> rfl) trivial)
  ·
   have hq:=hc2; simp only [bne_eq_false_iff_eq] at hq
   refine gz h <| gS <| gN <| gx hK7 <| gR <| g0 (eV rfl rfl (r:=((i+1:Nat):Int)) (by rw [IntKind.wrap_i64]; omega)) rfl <| g0 (ay rfl) rfl <| gx (fun _ _=>fW) ?_; clear h ac wo; intro ac wo h
   exact az ⟨_,og,i+1,rfl,og,(by intro _; split at hq <;> omega),(by intro _; split at hq <;> omega),h.re []⟩
 ·
  have hd1:=of_decide_eq_false hc1
  refine gz h <| gE <| gx hK3 <| gr fun K11 hK11=>g0 (ay rfl) rfl <| g0 (aA rfl) rfl <| gn hK11 <| gT ?_; clear h ac wo; intro ac wo h
  have hd:or2 u v=0:=(by rw [hu og,hv og]; rfl)
  exact (rt h) (h.retP (by rw [hd] <;> rfl) trivial)
theorem eQ (a:Nat) (b:Nat) (w0:World):Calls Tryz.prog 198 #[(.string (bs a)),(.string (bs b))] w0 (dh w0 (.int .i64 (bn a b)) ((-1≤(bn a b)∧(bn a b)≤1))):=by
 refine enter (N:=15) (args:=[(.string (bs a)),(.string (bs b))]) Tryz.func198 rfl rfl ?_; intro ac h
 have p2:=ar ((kW ((bs a).size:Int) ((bs b).size:Int)) w0)
 refine gz h <| (xo (hs:=by exact lM uu9 rfl)) <| (xo (hs:=by exact lM uu9 rfl)) <| (xk (kW ((bs a).size:Int) ((bs b).size:Int))) <| (xk (mZ a b)) <| ?_; clear h ac; intro ac wo h
 refine nw h (s_slice2 (u:=(bN ((bs a).size:Int) ((bs b).size:Int))) (v:=(Lib.compareBytes (bs a).data.toList (bs b).data.toList)) slt358 rfl rfl) rfl ?_; clear h ac wo; intro sv3 ac wo nnsv3 h
 refine clq h Tryz.call249 (vs:=[sv3]) rfl (fun w_ hB_ hS_=>se (bN ((bs a).size:Int) ((bs b).size:Int)) (Lib.compareBytes (bs a).data.toList (bs b).data.toList) sv3 w_ (row_view hS_ 0 rfl)) rfl ?_; clear h ac wo; intro ac wo h
 have hd:bn a b=(or2 (bN ((bs a).size:Int) ((bs b).size:Int)) (Lib.compareBytes (bs a).data.toList (bs b).data.toList)):=(zV a b).symm
 refine gz h <| (W) ?_; clear h ac wo; intro ac wo h
 exact (rt h) (h.retP (by rw [hd] <;> rfl) (by rw [hd]; exact (by rw [zV]; exact nC a b)))
theorem jc (nx vx:Nat) (xv:Value) (s:Nat) (hv:vx < 4294967296 ^ nx) (hs:s≤31) (hb:nx≤17592186044417) (w0:World) (hxv:View w0 xv (dgs nx vx)):Calls Tryz.prog 277 #[xv,(.int .i64 ((s:Nat):Int))] w0 (RetR w0 343 (dgs (nx+1) (vx*2 ^ s)) (True)):=by
 refine enter (N:=41) (args:=[xv,(.int .i64 ((s:Nat):Int))]) Tryz.func277 rfl rfl ?_; intro ac h
 have hs32:s≤32:=by omega
 refine qD fun K1 hK1=>?_
 refine rd0 h (aA rfl) rfl <| gn hK1 <| gr fun K2 hK2=>g0 (ay rfl) rfl <| g0 (g9 uu341 rfl hxv.dsl) rfl <| g0 (eV rfl rfl (r:=((nx+1:Nat):Int)) (by rw [IntKind.wrap_i64]; omega)) rfl ?_; clear h ac; intro ac wo h
 refine nw h (mu (n:=(nx+1)) ((0:Nat)) rfl pE rfl rfl rfl og og) rfl ?_; clear h ac wo; intro sv1 ac wo nnsv1 h
 refine rd0 h (aA rfl) rfl <| gn hK2 <| gq fun K3 hK3=>gr fun K4 hK4=>g0 (ay rfl) rfl <| g0 (g9 uu341 rfl hxv.dsl) rfl <| g0 (ay rfl) rfl <| gn hK4 <| gB ?_; clear h ac wo; intro ac wo h
 replace h:=h.rowEq 0 rfl (by rw [show vx % 4294967296 ^ 0*2 ^ s=0 by simp [Nat.mod_one]]; exact (nH _).symm:(List.replicate (nx+1) (0:Nat))=(dgs (nx+1) (vx % 4294967296 ^ 0*2 ^ s)))
 refine wp_loop_ghost (fun n_ a_ w_=>∃ (i:Nat),n_=nx - i∧(i≤nx)∧St w0 41 [(1,(.int .i64 ((s:Nat):Int))),(5,sv1),(13,xv),(14,(.int .i64 ((nx:Nat):Int))),(15,(.int .i64 ((i:Nat):Int)))] [.row (α:=Nat) 343 sv1 (dgs (nx+1) (vx % 4294967296 ^ i*2 ^ s))] a_ w_) _ ⟨0,rfl,og,h.re [0]⟩ ?_
 clear h ac wo; rintro _ ac wo ⟨i,rfl,hi,h⟩
 refine gz h <| gr fun K5 hK5=>g0 (jT rfl rfl) rfl <| gn hK5 <| gq fun K6 hK6=>?_; clear h ac wo; intro ac wo h
 refine ku h rfl (fun hc1=>?_) (fun hc1=>?_)
 ·
  have hd1:=of_decide_eq_true hc1
  refine gz h <| gS <| gx hK6 <| gq fun K7 hK7=>gB <| gr fun K8 hK8=>g0 (ay rfl) rfl <| g0 (iT (i:=i) uu341 zz343 rfl rfl (hxv.dnn og) og) rfl <| g0 (oW (k:=0) aa343 zz343 hxv (d9 (n:=nx) og) rfl (Nat.add_zero _) rfl rfl (v:=(.int .u32 (((vx / 4294967296 ^ i % 4294967296):Nat):Int))) rfl) rfl <| g0 (aA rfl) rfl <| g0 (aA rfl) rfl <| gn hK8 <| gr fun K9 hK9=>?_; clear h ac wo; intro ac wo h
  have hw:((vx / 4294967296 ^ i % 4294967296)*2 ^ s) < 18446744073709551616:=sh_word hs32 (Nat.mod_lt _ (by decide))
  refine rd0 h (ay rfl) rfl <| g0 (a8 uu343 uu260 rfl (r:=(((vx / 4294967296 ^ i % 4294967296):Nat):Int)) (by rw [IntKind.wrap_u64]; omega)) rfl <| g0 (ay rfl) rfl <| g0 (sS rfl rfl (r:=((((vx / 4294967296 ^ i % 4294967296)*2 ^ s):Nat):Int)) og (by simp [IntKind.bits] <;> omega) (qF rfl hw)) rfl <| g0 (aA rfl) rfl <| gn hK9 <| gr fun K10 hK10=>g0 (ay rfl) rfl <| g0 (ay rfl) rfl ?_; clear h ac wo; intro ac wo h
  refine rd0 h (iT (i:=i) uu341 zz343 rfl rfl (h.dnn 0 rfl og) og) rfl <| g1 0 rfl (iM (k:=0) aa343 zz343 (sh_get hs32 og) rfl (Nat.add_zero _) rfl rfl (v:=(.int .u32 (((shc vx s i):Nat):Int))) rfl) rfl <| g0 (ay rfl) rfl <| g0 (a8 uu260 uu343 rfl (r:=((((vx / 4294967296 ^ i % 4294967296)*2 ^ s) % 4294967296:Nat):Int)) (by rw [IntKind.wrap_u32']; omega)) rfl <| g0 (uo rfl rfl (r:=((shc vx s i+((vx / 4294967296 ^ i % 4294967296)*2 ^ s) % 4294967296:Nat):Int)) (sh_or hs32)) rfl ?_; clear h ac wo; intro ac wo h
  refine rd0 h (iT (i:=i) uu341 zz343 rfl rfl (h.dnn 0 rfl og) og) rfl ?_; clear h ac wo; intro ac wo h
  refine up h 0 rfl (g5 (k:=0) (u':=(shc vx s i+((vx / 4294967296 ^ i % 4294967296)*2 ^ s) % 4294967296)) zz343 (sh_get hs32 og) rfl rfl rfl rfl rfl rfl rfl rfl) ?_; clear h ac wo; intro ac wo h
  replace h:=h.rowEq 0 rfl (sh_set1 hs32)
  refine gz h <| gn hK10 <| gR <| g0 (ay rfl) rfl <| g0 (ay rfl) rfl <| g0 (eV rfl rfl (r:=((i+1:Nat):Int)) (by rw [IntKind.wrap_i64]; omega)) rfl <| g0 (ay rfl) rfl <| g0 (ng rfl rfl (r:=((((vx / 4294967296 ^ i % 4294967296)*2 ^ s) / 4294967296:Nat):Int)) (by decide) (by decide) (by rw [show (2:Int) ^ ((32:Int)).toNat=4294967296 from rfl]; omega)) rfl <| g0 (a8 uu260 uu343 rfl (r:=((((vx / 4294967296 ^ i % 4294967296)*2 ^ s) / 4294967296:Nat):Int)) (by rw [IntKind.wrap_u32']; omega)) rfl ?_; clear h ac wo; intro ac wo h
  refine rd0 h (iT (i:=(i+1)) uu341 zz343 rfl rfl (h.dnn 0 rfl og) og) rfl ?_; clear h ac wo; intro ac wo h
  refine up h 0 rfl (g5 (k:=0) (u':=(((vx / 4294967296 ^ i % 4294967296)*2 ^ s) / 4294967296)) zz343 (d9 (n:=nx+1) (q:=i+1) og) rfl rfl rfl rfl rfl rfl rfl rfl) ?_; clear h ac wo; intro ac wo h
  replace h:=h.rowEq 0 rfl (sh_set2 hs32)
  refine gz h <| gx (fun _ _=>fW) <| gN <| gx hK7 <| gR <| g0 (eV rfl rfl (r:=((i+1:Nat):Int)) (by rw [IntKind.wrap_i64]; omega)) rfl <| g0 (ay rfl) rfl <| gx (fun _ _=>fW) ?_; clear h ac wo; intro ac wo h
  exact az ⟨_,og,i+1,rfl,og,h.re [0]⟩
 ·
  have hd1:=of_decide_eq_false hc1
  refine gz h <| gE <| gx hK3 <| gr fun K11 hK11=>g0 (ay rfl) rfl <| g0 (aA rfl) rfl <| gn hK11 <| gT ?_; clear h ac wo; intro ac wo h
  have hd:dgs (nx+1) (vx*2 ^ s)=(dgs (nx+1) (vx % 4294967296 ^ i*2 ^ s)):=(by rw [show i=nx by omega,Nat.mod_eq_of_lt hv])
  exact (rt h) (by rw [hd]; exact h.retR 0 rfl trivial)
theorem ms (nx vx:Nat) (xv:Value) (d:Nat) (hv:vx < 4294967296 ^ nx) (hd0:0 < d) (hdl:d < 4294967296) (hb:nx≤35184372088832) (w0 w:World) (B:Asn) (hbel:Below w0.heap.size w0 w) (hsep:∃ U,Sep w0.heap.size w [.row (α:=Nat) 343 xv (dgs nx vx),B] U):Calls Tryz.prog 274 #[xv,(.int .u32 ((d:Nat):Int))] w (RetX w0 (.int .u32 ((vx % d:Nat):Int)) [.row (α:=Nat) 343 xv (dgs nx (vx / d)),B]):=by
 refine mF (N:=36) (args:=[xv,(.int .u32 ((d:Nat):Int))]) Tryz.func274 rfl rfl hbel hsep ?_; intro ac h
 refine qD fun K1 hK1=>?_
 refine rd0 h (aA rfl) rfl <| gn hK1 <| gr fun K2 hK2=>g0 (aA rfl) rfl <| gn hK2 <| gq fun K3 hK3=>gr fun K4 hK4=>g0 (ay rfl) rfl ?_; clear h ac; intro ac wo h
 refine rd0 h (g9 uu341 rfl (h.dsl 0 rfl)) rfl <| g0 (fv rfl rfl (r:=(((nx:Nat):Int) - 1)) (by rw [IntKind.wrap_i64]; omega)) rfl <| g0 (aA rfl) rfl <| gn hK4 <| gB ?_; clear h ac wo; intro ac wo h
 replace h:=h.rowEq 0 rfl (by rw [ta (Nat.lt_of_le_of_lt (Nat.div_le_self _ _) hv) hv]:(dgs nx vx)=(dgs nx (mx (vx / d) nx vx)))
 refine wp_loop_ghost (fun n_ a_ w_=>∃ (i:Nat),n_=1*i∧(i≤nx)∧St w0 36 [(0,xv),(1,(.int .u32 ((d:Nat):Int))),(6,(.int .i64 (((i:Nat):Int) - 1))),(5,(.int .u64 (((vx / 4294967296 ^ i % d):Nat):Int)))] [.row (α:=Nat) 343 xv (dgs nx (mx (vx / d) i vx)),B] a_ w_) _ ⟨nx,rfl,(Nat.le_refl _),(h.pick [0,1] (by decide)).sub ⟨rfl,rfl,rfl,(by rw [Nat.div_eq_of_lt hv]; simp; rfl),trivial⟩⟩ ?_
 clear h ac wo; rintro _ ac wo ⟨i,rfl,hi,h⟩
 refine gz h <| gq fun K5 hK5=>gr fun K6 hK6=>g0 (ay rfl) rfl <| g0 (ym rfl rfl) rfl <| gn hK6 ?_; clear h ac wo; intro ac wo h
 refine ku h rfl (fun hc1=>?_) (fun hc1=>?_)
 ·
  have hd1:=of_decide_eq_true hc1
  obtain ⟨q,rfl⟩:∃ q,i=q+1:=⟨i - 1,by omega⟩
  rw [show (((q+1:Nat):Int) - 1)=((q:Nat):Int) by omega] at h
  have hst:=wE (v:=vx) (i:=q) hd0
  have hrl:vx / 4294967296 ^ (q+1) % d < d:=Nat.mod_lt _ hd0
  refine gz h <| gS <| gx hK5 <| gq fun K7 hK7=>gB <| gr fun K8 hK8=>g0 (ay rfl) rfl <| g0 (sS rfl rfl (r:=(((vx / 4294967296 ^ (q+1) % d)*2 ^ 32:Nat):Int)) (by decide) (by decide) (qF rfl og)) rfl <| g0 (ay rfl) rfl <| g0 (ay rfl) rfl ?_; clear h ac wo; intro ac wo h
  refine rd0 h (iT (i:=q) uu341 zz343 rfl rfl (h.dnn 0 rfl og) og) rfl <| g1 0 rfl (iM (k:=0) aa343 zz343 (qS og) rfl (Nat.add_zero _) rfl rfl (v:=(.int .u32 (((vx / 4294967296 ^ q % 4294967296):Nat):Int))) rfl) rfl <| g0 (a8 uu343 uu260 rfl (r:=(((vx / 4294967296 ^ q % 4294967296):Nat):Int)) (by rw [IntKind.wrap_u64]; omega)) rfl <| g0 (uo rfl rfl (r:=((((vx / 4294967296 ^ (q+1) % d)*4294967296+(vx / 4294967296 ^ q % 4294967296)):Nat):Int)) (j6 (k:=32) _ _ og (Nat.mod_lt _ (by decide)) og)) rfl <| g0 (aA rfl) rfl <| gn hK8 ?_; clear h ac wo; intro ac wo h
  refine fU mixed [dv _,dv _,dv _,dv _,dv _,dv _,dv _,dv _,dv _,dv _,dv _,dv _,dw _ [0],dv _] [⟨.row (α:=Nat) 343 xv (dgs nx (mx (vx / d) (q+1) vx)),[(12,.con (.row (α:=Nat) 343 xv ((dgs nx (mx (vx / d) (q+1) vx)).set q (vx / d / 4294967296 ^ q % 4294967296))))]⟩,⟨_,[]⟩] h rfl (by kernel_rfl) ⟨fun _ _=>om rfl,fun _ _=>om rfl,fun _ _=>om rfl,fun _ _=>om rfl,fun _ _=>bk (a8 uu343 uu260 rfl (r:=((d:Nat):Int)) (by rw [IntKind.wrap_u64]; omega)),fun _ _=>bk (oV rfl rfl (r:=((vx / d / 4294967296 ^ q % 4294967296:Nat):Int)) og (by rw [Int.tdiv_eq_ediv_of_nonneg og,show ((((vx / 4294967296 ^ (q+1) % d)*4294967296+(vx / 4294967296 ^ q % 4294967296)):Nat):Int) / ((d:Nat):Int)=((vx / d / 4294967296 ^ q % 4294967296:Nat):Int) from by rw [← hst.1]; rfl,IntKind.wrap_u64]; omega)),fun _ _=>bk (a8 uu260 uu343 rfl (r:=((vx / d / 4294967296 ^ q % 4294967296:Nat):Int)) (by rw [IntKind.wrap_u32']; omega)),fun _ _=>om rfl,fun _ _=>om rfl,fun _ _=>bk (a8 uu343 uu260 rfl (r:=((d:Nat):Int)) (by rw [IntKind.wrap_u64]; omega)),fun _ _=>bk (ru rfl rfl (r:=((vx / 4294967296 ^ q % d:Nat):Int)) og (by rw [Int.tmod_eq_emod_of_nonneg og,← hst.2]; rfl)),fun _ _=>bk (iT (i:=q) uu341 zz343 rfl rfl (h.dnn 0 rfl og) og),fun _ _=>lS _ [.row (α:=Nat) 343 xv ((dgs nx (mx (vx / d) (q+1) vx)).set q (vx / d / 4294967296 ^ q % 4294967296))] rfl rfl (g5 (k:=0) (u':=(vx / d / 4294967296 ^ q % 4294967296)) zz343 (qS og) rfl rfl rfl rfl rfl rfl rfl rfl),fun _ _=>bk (aA rfl),trivial⟩ ?_
  clear h ac wo; intro ξ ac wo hφ h
  replace h:St w0 36 [(0,xv),(1,(.int .u32 ((d:Nat):Int))),(6,(.int .i64 ((q:Nat):Int))),(5,(.int .u64 ((vx / 4294967296 ^ q % d:Nat):Int)))] [.row (α:=Nat) 343 xv ((dgs nx (mx (vx / d) (q+1) vx)).set q (vx / d / 4294967296 ^ q % 4294967296)),B] ac wo:=h.sub ⟨rfl,rfl,rfl,rfl,trivial⟩
  clear hφ ξ
  refine gz h <| gN <| gx hK7 <| gR <| g0 (ay rfl) rfl <| g0 (fv rfl rfl (r:=(((q:Nat):Int) - 1)) (by rw [IntKind.wrap_i64]; omega)) rfl <| g0 (aA rfl) rfl <| gx (fun _ _=>fW) ?_; clear h ac wo; intro ac wo h
  replace h:=h.rowEq 0 rfl (uz:((dgs nx (mx (vx / d) (q+1) vx)).set q (vx / d / 4294967296 ^ q % 4294967296))=(dgs nx (mx (vx / d) q vx)))
  exact az ⟨_,og,q,rfl,og,h.re [0,1]⟩
 ·
  have hd1:=of_decide_eq_false hc1
  have hi0:i=0:=by omega
  subst hi0
  replace h:=h.rowEq 0 rfl (by rw [rN]:(dgs nx (mx (vx / d) 0 vx))=(dgs nx (vx / d)))
  have hmd:vx % d < d:=Nat.mod_lt _ hd0
  refine gz h <| gE <| gx hK3 <| gr fun K9 hK9=>g0 (ay rfl) rfl <| g0 (a8 uu260 uu343 rfl (r:=((vx % d:Nat):Int)) (by rw [IntKind.wrap_u32',Nat.pow_zero,Nat.div_one]; omega)) rfl <| g0 (aA rfl) rfl <| gn hK9 <| gT ?_; clear h ac wo; intro ac wo h
  exact (rt h) (h.retX rfl)
def dX (a b:Nat):Nat:=a+b
theorem iE (a:Nat) (b:Nat) (k:Nat) (hk:(k+1)≤40) (za:SzB (k+1) a) (zb:SzB (k+1) b) (w0:World):Calls Tryz.prog 282 #[(.string (bs a)),(.string (bs b))] w0 (dh w0 (.string (bs (dX a b))) (SzB k (dX a b))):=by
 refine enter (N:=84) (args:=[(.string (bs a)),(.string (bs b))]) Tryz.func282 rfl rfl ?_; intro ac h
 refine qD fun K1 hK1=>?_
 refine rd0 h (aA rfl) rfl <| gn hK1 ?_; clear h ac; intro ac wo h
 refine xj (fun a_ w_=>St w0 84 [(0,(.string (bs a))),(1,(.string (bs b)))] [] a_ w_) (fun K2 hK2=>?_) ?_
 ·
  refine gz h <| gr fun K3 hK3=>g0 (ay rfl) rfl <| g0 (ay rfl) rfl <| gl cc200 rfl (gG a b) rfl <| g0 (ay rfl) rfl <| g0 (cY rfl rfl) rfl <| g0 (cY rfl rfl) rfl <| g0 (cY rfl rfl) rfl <| g0 (aA rfl) rfl <| g0 (aA rfl) rfl <| g0 (aA rfl) rfl <| gn hK3 <| gr fun K4 hK4=>g0 (ay rfl) rfl <| gn hK4 ?_; clear h ac wo; intro ac wo h
  refine ku h rfl (fun hc1=>?_) (fun hc1=>?_)
  ·
   obtain ⟨ha6,hb6,hw⟩:=lG hc1
   simp only [hw] at h
   refine gz h <| gr fun K5 hK5=>g0 (ay rfl) rfl <| g0 (ay rfl) rfl <| g0 (r_ext (vs:=[(.int .u64 ((a:Nat):Int)),(.int .u64 ((b:Nat):Int)),(.int .u64 0)]) rfl (add64 a b)) rfl <| g0 (ay rfl) rfl <| g0 (cY rfl rfl) rfl <| g0 (cY rfl rfl) rfl <| g0 (aA rfl) rfl <| g0 (aA rfl) rfl <| gn hK5 <| gr fun K6 hK6=>g0 (ay rfl) rfl <| g0 (ur rfl rfl) rfl <| gn hK6 ?_; clear h ac wo; intro ac wo h
   refine ku h rfl (fun hc2=>?_) (fun hc2=>?_)
   ·
    have hd2:=eq_of_beq hc2
    refine gz h <| gr fun K7 hK7=>g0 (ay rfl) rfl <| gl cc202 rfl (dz ((a+b) % 18446744073709551616) og) rfl <| g0 (aA rfl) rfl <| gn hK7 <| gT ?_; clear h ac wo; intro ac wo h
    have hd:dX a b=(bK ((a+b) % 18446744073709551616)):=(by show a+b=(a+b) % 18446744073709551616; omega)
    exact (rt h) (h.retP (by rw [hd] <;> rfl) (aau za zb))
   ·
    have hd2:=ne_of_beq_false hc2
    refine nJ ?_
    exact hK2 _ _ ((h.pick [] (by decide)).sub ⟨rfl,rfl,trivial⟩)
  ·
   refine nJ ?_
   exact hK2 _ _ ((h.pick [] (by decide)).sub ⟨rfl,rfl,trivial⟩)
 ·
  clear h ac wo; intro ac wo h
  refine gz h <| gr fun K8 hK8=>g0 (ay rfl) rfl ?_; clear h ac wo; intro ac wo h
  refine clr (xs:=(dgs (dn a) a)) h cc273 (vs:=[(.string (bs a))]) rfl (kk (d7 a (kr za))) rfl ?_; clear h ac wo; intro sv1 ac wo hpsv1 h
  refine rd0 h (ay rfl) rfl ?_; clear h ac wo; intro ac wo h
  refine clr (xs:=(dgs (dn b) b)) h cc273 (vs:=[(.string (bs b))]) rfl (kk (d7 b (kr zb))) rfl ?_; clear h ac wo; intro sv2 ac wo hpsv2 h
  refine rd0 h (aA rfl) rfl <| g0 (aA rfl) rfl <| gn hK8 ?_; clear h ac wo; intro ac wo h
  refine xj (fun a_ w_=>∃ (p:Nat) (q:Nat) (sp:Value) (sq:Value),(p+q=a+b)∧(dn q≤dn p)∧(dn p≤17592186044416)∧(dn q≤17592186044416)∧St w0 84 [(10,sp),(11,sq)] [.row (α:=Nat) 343 sp (dgs (dn p) p),.row (α:=Nat) 343 sq (dgs (dn q) q)] a_ w_) (fun K9 hK9=>?_) ?_
  ·
   refine gz h <| gr fun K10 hK10=>g0 (ay rfl) rfl ?_; clear h ac wo; intro ac wo h
   refine rd0 h (g9 uu341 rfl (h.dsl 1 rfl)) rfl <| g0 (ay rfl) rfl ?_; clear h ac wo; intro ac wo h
   refine rd0 h (g9 uu341 rfl (h.dsl 0 rfl)) rfl <| g0 (jT rfl rfl) rfl <| gn hK10 ?_; clear h ac wo; intro ac wo h
   refine ku h rfl (fun hc3=>?_) (fun hc3=>?_)
   ·
    have hd3:=of_decide_eq_true hc3
    refine gz h <| gR <| g0 (ay rfl) rfl <| g0 (ay rfl) rfl <| g0 (aA rfl) rfl <| g0 (aA rfl) rfl <| gx (fun _ _=>fW) ?_; clear h ac wo; intro ac wo h
    exact hK9 _ _ ⟨b,a,sv2,sv1,og,og,(ij zb),(ij za),h.re [0,1]⟩
   ·
    have hd3:=of_decide_eq_false hc3
    refine nJ ?_
    exact hK9 _ _ ⟨a,b,sv1,sv2,og,og,(ij za),(ij zb),h.re [1,0]⟩
  ·
   clear h ac wo; intro ac wo h
   obtain ⟨p,q,sp,sq,hpq,hle,hpl,hql,h⟩:=h
   refine gz h <| gr fun K11 hK11=>g0 (ay rfl) rfl ?_; clear h ac wo; intro ac wo h
   refine rd0 h (g9 uu341 rfl (h.dsl 0 rfl)) rfl <| g0 (eV rfl rfl (r:=(((dn p)+1:Nat):Int)) (by rw [IntKind.wrap_i64]; omega)) rfl ?_; clear h ac wo; intro ac wo h
   refine nw h (mu (n:=((dn p)+1)) ((0:Nat)) rfl pE rfl rfl rfl og og) rfl ?_; clear h ac wo; intro sv3 ac wo nnsv3 h
   refine rd0 h (aA rfl) rfl <| gn hK11 <| gr fun K12 hK12=>g0 (ay rfl) rfl <| g0 (ay rfl) rfl ?_; clear h ac wo; intro ac wo h
   refine up2 h 0 1 (by decide) rfl rfl (s_copy nn341 (by kernel_rfl) rfl rfl rfl (by rw [cX,List.length_replicate]; omega)) rfl ?_; clear h ac wo; intro ac wo h
   replace h:=h.rowEq 0 rfl (vY (i5 p) og)
   refine gz h <| gn hK12 <| gr fun K13 hK13=>g0 (aA rfl) rfl <| gn hK13 <| gq fun K14 hK14=>gr fun K15 hK15=>g0 (ay rfl) rfl ?_; clear h ac wo; intro ac wo h
   refine rd0 h (g9 uu341 rfl (h.dsl 0 rfl)) rfl <| g0 (ay rfl) rfl <| gn hK15 <| gB ?_; clear h ac wo; intro ac wo h
   have hz0:dgs (dn p+1) p=dgs (dn p+1) (mx p 0 (p+q)):=by rw [rN]
   rw [hz0] at h
   refine wp_loop_ghost (fun n_ a_ w_=>∃ (i:Nat),n_=dn p+1 - i∧(i≤dn p+1)∧St w0 84 [(11,sq),(12,sv3),(52,(.int .i64 (((dn p+1):Nat):Int))),(53,(.int .i64 ((i:Nat):Int))),(13,(.int .u64 (((cy p q i):Nat):Int)))] [.row (α:=Nat) 343 sv3 (dgs (dn p+1) (mx p i (p+q))),.row (α:=Nat) 343 sp (dgs (dn p) p),.row (α:=Nat) 343 sq (dgs (dn q) q)] a_ w_) _ ⟨0,rfl,og,(h.pick [0,1,2] (by decide)).sub ⟨rfl,rfl,rfl,rfl,(by rw [zK]; rfl),trivial⟩⟩ ?_
   clear h ac wo; rintro _ ac wo ⟨i,rfl,hi,h⟩
   refine gz h <| gr fun K16 hK16=>g0 (jT rfl rfl) rfl <| gn hK16 <| gq fun K17 hK17=>?_; clear h ac wo; intro ac wo h
   refine ku h rfl (fun hc4=>?_) (fun hc4=>?_)
   ·
    have hd4:=of_decide_eq_true hc4
    refine gz h <| gS <| gx hK17 <| gq fun K18 hK18=>gB <| gr fun K19 hK19=>g0 (ay rfl) rfl <| g0 (aA rfl) rfl <| gn hK19 <| gr fun K20 hK20=>?_; clear h ac wo; intro ac wo h
    have hlt:i < dn p+1:=by omega
    have hcy:=cy_le p q i
    have hdig:=r8 p q i
    have hnx:=zL p q i
    refine rd0 h (ay rfl) rfl <| g0 (ay rfl) rfl <| g0 (ay rfl) rfl ?_; clear h ac wo; intro ac wo h
    refine rd0 h (iT (i:=i) uu341 zz343 rfl rfl (h.dnn 0 rfl og) og) rfl <| g1 0 rfl (iM (k:=0) aa343 zz343 (jb hlt) rfl (Nat.add_zero _) rfl rfl (v:=(.int .u32 (((p / 4294967296 ^ i % 4294967296):Nat):Int))) rfl) rfl <| g0 (a8 uu343 uu260 rfl (r:=(((p / 4294967296 ^ i % 4294967296):Nat):Int)) (by rw [IntKind.wrap_u64]; omega)) rfl <| g0 (eV rfl rfl (r:=(((cy p q i)+(p / 4294967296 ^ i % 4294967296):Nat):Int)) (by rw [IntKind.wrap_u64]; omega)) rfl <| g0 (aA rfl) rfl <| gn hK20 <| gq fun K21 hK21=>gr fun K22 hK22=>g0 (ay rfl) rfl <| g0 (ay rfl) rfl ?_; clear h ac wo; intro ac wo h
    refine rd0 h (g9 uu341 rfl (h.dsl 2 rfl)) rfl <| g0 (jT rfl rfl) rfl <| gn hK22 ?_; clear h ac wo; intro ac wo h
    refine ku h rfl (fun hc5=>?_) (fun hc5=>?_)
    ·
     have hd5:=of_decide_eq_true hc5
     refine gz h <| gR <| g0 (ay rfl) rfl <| g0 (ay rfl) rfl <| g0 (ay rfl) rfl ?_; clear h ac wo; intro ac wo h
     refine rd0 h (iT (i:=i) uu341 zz343 rfl rfl (h.dnn 2 rfl og) og) rfl <| g1 2 rfl (iM (k:=0) aa343 zz343 (d9 (n:=(dn q)) og) rfl (Nat.add_zero _) rfl rfl (v:=(.int .u32 (((q / 4294967296 ^ i % 4294967296):Nat):Int))) rfl) rfl <| g0 (a8 uu343 uu260 rfl (r:=(((q / 4294967296 ^ i % 4294967296):Nat):Int)) (by rw [IntKind.wrap_u64]; omega)) rfl <| g0 (eV rfl rfl (r:=((((cy p q i)+(p / 4294967296 ^ i % 4294967296))+(q / 4294967296 ^ i % 4294967296):Nat):Int)) (by rw [IntKind.wrap_u64]; omega)) rfl <| g0 (aA rfl) rfl <| gn hK21 <| gR <| g0 (ay rfl) rfl <| g0 (ay rfl) rfl <| g0 (ay rfl) rfl <| g0 (a8 uu260 uu343 rfl (r:=(((p+q) / 4294967296 ^ i % 4294967296:Nat):Int)) (by rw [IntKind.wrap_u32',hdig]; omega)) rfl <| g0 (ay rfl) rfl <| g0 (ng rfl rfl (r:=((cy p q (i+1):Nat):Int)) (by decide) (by decide) (by rw [show (2:Int) ^ ((32:Int)).toNat=4294967296 from rfl]; rw [hnx]; omega)) rfl ?_; clear h ac wo; intro ac wo h
     refine rd0 h (iT (i:=i) uu341 zz343 rfl rfl (h.dnn 0 rfl og) og) rfl ?_; clear h ac wo; intro ac wo h
     refine up h 0 rfl (g5 (k:=0) (u':=((p+q) / 4294967296 ^ i % 4294967296)) zz343 (jb hlt) rfl rfl rfl rfl rfl rfl rfl rfl) ?_; clear h ac wo; intro ac wo h
     replace h:=h.rowEq 0 rfl (mC)
     refine rd0 h (aA rfl) rfl <| gx (fun _ _=>fW) <| gN <| gx hK18 <| gR <| g0 (eV rfl rfl (r:=((i+1:Nat):Int)) (by rw [IntKind.wrap_i64]; omega)) rfl <| g0 (ay rfl) rfl <| gx (fun _ _=>fW) ?_; clear h ac wo; intro ac wo h
     exact az ⟨_,og,i+1,rfl,og,h.re [0,1,2]⟩
    ·
     have hd5:=of_decide_eq_false hc5
     have hq0:=r7 (i:=i) (i5 q) og
     refine gz h <| gS <| gx hK21 <| gR <| g0 (ay rfl) rfl <| g0 (ay rfl) rfl <| g0 (ay rfl) rfl <| g0 (a8 uu260 uu343 rfl (r:=(((p+q) / 4294967296 ^ i % 4294967296:Nat):Int)) (by rw [IntKind.wrap_u32',hdig]; omega)) rfl <| g0 (ay rfl) rfl <| g0 (ng rfl rfl (r:=((cy p q (i+1):Nat):Int)) (by decide) (by decide) (by rw [show (2:Int) ^ ((32:Int)).toNat=4294967296 from rfl]; rw [hnx]; omega)) rfl ?_; clear h ac wo; intro ac wo h
     refine rd0 h (iT (i:=i) uu341 zz343 rfl rfl (h.dnn 0 rfl og) og) rfl ?_; clear h ac wo; intro ac wo h
     refine up h 0 rfl (g5 (k:=0) (u':=((p+q) / 4294967296 ^ i % 4294967296)) zz343 (jb hlt) rfl rfl rfl rfl rfl rfl rfl rfl) ?_; clear h ac wo; intro ac wo h
     replace h:=h.rowEq 0 rfl (mC)
     refine rd0 h (aA rfl) rfl <| gx (fun _ _=>fW) <| gN <| gx hK18 <| gR <| g0 (eV rfl rfl (r:=((i+1:Nat):Int)) (by rw [IntKind.wrap_i64]; omega)) rfl <| g0 (ay rfl) rfl <| gx (fun _ _=>fW) ?_; clear h ac wo; intro ac wo h
     exact az ⟨_,og,i+1,rfl,og,h.re [0,1,2]⟩
   ·
    have hd4:=of_decide_eq_false hc4
    refine kd ?_
    refine hK14 _ _ ?_
    refine qD fun K23 hK23=>?_
    have hie:i=dn p+1:=by omega
    subst hie
    rw [ta (by have:=i5 p; rw [Nat.pow_succ]; omega) (by rw [Nat.pow_succ]; have h1:=i5 p; have h2:=(r6 q (dn p)).1 hle; omega)] at h
    refine rd0 h (ay rfl) rfl ?_; clear h ac wo; intro ac wo h
    refine clq h cc275 (vs:=[sv3]) rfl (fun w_ hB_ hS_=>eU (dn p+1) (p+q) sv3 (by rw [Nat.pow_succ]; have h1:=i5 p; have h2:=(r6 q (dn p)).1 hle; omega) og w_ (row_view hS_ 0 rfl)) rfl ?_; clear h ac wo; intro ac wo h
    refine rd0 h (aA rfl) rfl <| gn hK23 <| gT ?_; clear h ac wo; intro ac wo h
    have hd:dX a b=(p+q):=(by show a+b=p+q; omega)
    exact (rt h) (h.retP (by rw [hd] <;> rfl) (aau za zb))
def dx (a b:Nat):Nat:=a - b
theorem gJ (a:Nat) (b:Nat) (k:Nat) (hk:k≤40) (za:SzB k a) (zb:SzB k b) (hab:b≤a) (w0:World):Calls Tryz.prog 283 #[(.string (bs a)),(.string (bs b))] w0 (dh w0 (.string (bs (dx a b))) (SzB k (dx a b))):=by
 refine enter (N:=71) (args:=[(.string (bs a)),(.string (bs b))]) Tryz.func283 rfl rfl ?_; intro ac h
 have hda:=ij za
 have hdb:=ij zb
 refine qD fun K1 hK1=>?_
 refine rd0 h (aA rfl) rfl <| gn hK1 <| gq fun K2 hK2=>gr fun K3 hK3=>g0 (ay rfl) rfl <| g0 (ay rfl) rfl <| gl cc200 rfl (gG a b) rfl <| g0 (ay rfl) rfl <| g0 (cY rfl rfl) rfl <| g0 (cY rfl rfl) rfl <| g0 (cY rfl rfl) rfl <| g0 (aA rfl) rfl <| g0 (aA rfl) rfl <| g0 (aA rfl) rfl <| gn hK3 <| gr fun K4 hK4=>g0 (ay rfl) rfl <| gn hK4 ?_; clear h ac; intro ac wo h
 refine ku h rfl (fun hc1=>?_) (fun hc1=>?_)
 ·
  obtain ⟨ha6,hb6,hw⟩:=lG hc1
  simp only [hw] at h
  refine gz h <| gr fun K5 hK5=>g0 (ay rfl) rfl <| g0 (ay rfl) rfl <| g0 (fv rfl rfl (r:=((a - b:Nat):Int)) (by rw [IntKind.wrap_u64]; omega)) rfl <| gl cc202 rfl (dz (a - b) og) rfl <| g0 (aA rfl) rfl <| gn hK5 <| gT ?_; clear h ac wo; intro ac wo h
  exact (rt h) (h.retP (by unfold dx; rfl) (ip za (Nat.sub_le a b)))
 ·
  refine gz h <| gS <| gx hK2 <| gr fun K6 hK6=>g0 (ay rfl) rfl ?_; clear h ac wo; intro ac wo h
  refine clr (xs:=(dgs (dn a) a)) h cc273 (vs:=[(.string (bs a))]) rfl (kk (d7 a (kr za))) rfl ?_; clear h ac wo; intro sv1 ac wo hpsv1 h
  refine rd0 h (ay rfl) rfl ?_; clear h ac wo; intro ac wo h
  refine clr (xs:=(dgs (dn b) b)) h cc273 (vs:=[(.string (bs b))]) rfl (kk (d7 b (kr zb))) rfl ?_; clear h ac wo; intro sv2 ac wo hpsv2 h
  refine rd0 h (aA rfl) rfl <| g0 (aA rfl) rfl <| gn hK6 <| gr fun K7 hK7=>g0 (ay rfl) rfl ?_; clear h ac wo; intro ac wo h
  refine rd0 h (g9 uu341 rfl (h.dsl 1 rfl)) rfl ?_; clear h ac wo; intro ac wo h
  refine nw h (mu (n:=(dn a)) ((0:Nat)) rfl pE rfl rfl rfl (by have:=ij za; omega) (by have:=ij za; omega)) rfl ?_; clear h ac wo; intro sv3 ac wo nnsv3 h
  refine rd0 h (aA rfl) rfl <| gn hK7 <| gr fun K8 hK8=>g0 (ay rfl) rfl <| g0 (ay rfl) rfl ?_; clear h ac wo; intro ac wo h
  refine up2 h 0 2 (by decide) rfl rfl (s_copy nn341 (by kernel_rfl) rfl rfl rfl (by rw [cX,List.length_replicate]; omega)) rfl ?_; clear h ac wo; intro ac wo h
  replace h:=h.rowEq 0 rfl (vY (i5 a) (Nat.le_refl _))
  refine gz h <| gn hK8 <| gr fun K9 hK9=>g0 (aA rfl) rfl <| gn hK9 <| gq fun K10 hK10=>gr fun K11 hK11=>g0 (ay rfl) rfl ?_; clear h ac wo; intro ac wo h
  refine rd0 h (g9 uu341 rfl (h.dsl 0 rfl)) rfl <| g0 (ay rfl) rfl <| gn hK11 <| gB ?_; clear h ac wo; intro ac wo h
  replace h:=h.rowEq 0 rfl (by rw [rN]:(dgs (dn a) a)=(dgs (dn a) (mx a 0 (a - b))))
  refine wp_loop_ghost (fun n_ a_ w_=>∃ (i:Nat),n_=dn a - i∧(i≤dn a)∧St w0 71 [(9,sv2),(10,sv3),(37,(.int .i64 (((dn a):Nat):Int))),(38,(.int .i64 ((i:Nat):Int))),(11,(.int .i64 (((bw a b i):Nat):Int)))] [.row (α:=Nat) 343 sv3 (dgs (dn a) (mx a i (a - b))),.row (α:=Nat) 343 sv2 (dgs (dn b) b),.row (α:=Nat) 343 sv1 (dgs (dn a) a)] a_ w_) _ ⟨0,rfl,og,(h.pick [0,1,2] (by decide)).sub ⟨rfl,rfl,rfl,rfl,(by rw [aab]; rfl),trivial⟩⟩ ?_
  clear h ac wo; rintro _ ac wo ⟨i,rfl,hi,h⟩
  refine gz h <| gr fun K12 hK12=>g0 (jT rfl rfl) rfl <| gn hK12 <| gq fun K13 hK13=>?_; clear h ac wo; intro ac wo h
  refine ku h rfl (fun hc2=>?_) (fun hc2=>?_)
  ·
   have hd2:=of_decide_eq_true hc2
   refine gz h <| gS <| gx hK13 <| gq fun K14 hK14=>gB <| gr fun K15 hK15=>g0 (ay rfl) rfl <| g0 (aA rfl) rfl <| gn hK15 <| gr fun K16 hK16=>?_; clear h ac wo; intro ac wo h
   have hlt:i < dn a:=by omega
   have hbl:=aad a b i
   have hst:=aac (i:=i) rfl rfl hab
   refine rd0 h (ay rfl) rfl <| g0 (ay rfl) rfl ?_; clear h ac wo; intro ac wo h
   refine rd0 h (iT (i:=i) uu341 zz343 rfl rfl (h.dnn 0 rfl og) og) rfl <| g1 0 rfl (iM (k:=0) aa343 zz343 (jb hlt) rfl (Nat.add_zero _) rfl rfl (v:=(.int .u32 (((a / 4294967296 ^ i % 4294967296):Nat):Int))) rfl) rfl <| g0 (a8 uu343 uu2 rfl (r:=(((a / 4294967296 ^ i % 4294967296):Nat):Int)) (by rw [IntKind.wrap_i64]; omega)) rfl <| g0 (ay rfl) rfl <| g0 (fv rfl rfl (r:=((((a / 4294967296 ^ i % 4294967296):Nat):Int) - (((bw a b i):Nat):Int))) (by rw [IntKind.wrap_i64]; omega)) rfl <| g0 (aA rfl) rfl <| gn hK16 <| gq fun K17 hK17=>gr fun K18 hK18=>g0 (ay rfl) rfl <| g0 (ay rfl) rfl ?_; clear h ac wo; intro ac wo h
   refine rd0 h (g9 uu341 rfl (h.dsl 1 rfl)) rfl <| g0 (jT rfl rfl) rfl <| gn hK18 ?_; clear h ac wo; intro ac wo h
   refine ku h rfl (fun hc3=>?_) (fun hc3=>?_)
   ·
    have hd3:=of_decide_eq_true hc3
    refine gz h <| gR <| g0 (ay rfl) rfl <| g0 (ay rfl) rfl <| g0 (ay rfl) rfl ?_; clear h ac wo; intro ac wo h
    refine rd0 h (iT (i:=i) uu341 zz343 rfl rfl (h.dnn 1 rfl og) og) rfl <| g1 1 rfl (iM (k:=0) aa343 zz343 (d9 (n:=(dn b)) og) rfl (Nat.add_zero _) rfl rfl (v:=(.int .u32 (((b / 4294967296 ^ i % 4294967296):Nat):Int))) rfl) rfl <| g0 (a8 uu343 uu2 rfl (r:=(((b / 4294967296 ^ i % 4294967296):Nat):Int)) (by rw [IntKind.wrap_i64]; omega)) rfl <| g0 (fv rfl rfl (r:=(((((a / 4294967296 ^ i % 4294967296):Nat):Int) - (((bw a b i):Nat):Int)) - (((b / 4294967296 ^ i % 4294967296):Nat):Int))) (by rw [IntKind.wrap_i64]; omega)) rfl <| g0 (aA rfl) rfl <| gn hK17 <| gr fun K19 hK19=>g0 (aA rfl) rfl <| gn hK19 <| gq fun K20 hK20=>gr fun K21 hK21=>g0 (ay rfl) rfl <| g0 (jT rfl rfl) rfl <| gn hK21 ?_; clear h ac wo; intro ac wo h
    refine ku h rfl (fun hc4=>?_) (fun hc4=>?_)
    ·
     have hd4:=of_decide_eq_true hc4
     rw [if_pos og,if_pos og] at hst
     refine gz h <| gR <| g0 (ay rfl) rfl <| g0 (eV rfl rfl (r:=((((((a / 4294967296 ^ i % 4294967296):Nat):Int) - (((bw a b i):Nat):Int)) - (((b / 4294967296 ^ i % 4294967296):Nat):Int))+4294967296)) (by rw [IntKind.wrap_i64]; omega)) rfl <| g0 (aA rfl) rfl <| g0 (aA rfl) rfl <| gn hK20 <| gR <| g0 (ay rfl) rfl <| g0 (ay rfl) rfl <| g0 (ay rfl) rfl <| g0 (a8 uu2 uu343 rfl (r:=(((a - b) / 4294967296 ^ i % 4294967296:Nat):Int)) (by rw [IntKind.wrap_u32',hst.2]; omega)) rfl ?_; clear h ac wo; intro ac wo h
     refine rd0 h (iT (i:=i) uu341 zz343 rfl rfl (h.dnn 0 rfl og) og) rfl ?_; clear h ac wo; intro ac wo h
     refine up h 0 rfl (g5 (k:=0) (u':=((a - b) / 4294967296 ^ i % 4294967296)) zz343 (jb hlt) rfl rfl rfl rfl rfl rfl rfl rfl) ?_; clear h ac wo; intro ac wo h
     replace h:=h.rowEq 0 rfl (mC)
     refine gz h <| gx (fun _ _=>fW) <| gN <| gx hK14 <| gR <| g0 (eV rfl rfl (r:=((i+1:Nat):Int)) (by rw [IntKind.wrap_i64]; omega)) rfl <| g0 (ay rfl) rfl <| gx (fun _ _=>fW) ?_; clear h ac wo; intro ac wo h
     exact az ⟨_,og,i+1,rfl,og,(h.pick [0,1,2] (by decide)).sub ⟨rfl,rfl,rfl,rfl,(by rw [hst.1]; rfl),trivial⟩⟩
    ·
     have hd4:=of_decide_eq_false hc4
     rw [if_neg og,if_neg og] at hst
     refine gz h <| gS <| gx hK20 <| gR <| g0 (ay rfl) rfl <| g0 (ay rfl) rfl <| g0 (ay rfl) rfl <| g0 (a8 uu2 uu343 rfl (r:=(((a - b) / 4294967296 ^ i % 4294967296:Nat):Int)) (by rw [IntKind.wrap_u32',hst.2]; omega)) rfl ?_; clear h ac wo; intro ac wo h
     refine rd0 h (iT (i:=i) uu341 zz343 rfl rfl (h.dnn 0 rfl og) og) rfl ?_; clear h ac wo; intro ac wo h
     refine up h 0 rfl (g5 (k:=0) (u':=((a - b) / 4294967296 ^ i % 4294967296)) zz343 (jb hlt) rfl rfl rfl rfl rfl rfl rfl rfl) ?_; clear h ac wo; intro ac wo h
     replace h:=h.rowEq 0 rfl (mC)
     refine gz h <| gx (fun _ _=>fW) <| gN <| gx hK14 <| gR <| g0 (eV rfl rfl (r:=((i+1:Nat):Int)) (by rw [IntKind.wrap_i64]; omega)) rfl <| g0 (ay rfl) rfl <| gx (fun _ _=>fW) ?_; clear h ac wo; intro ac wo h
     exact az ⟨_,og,i+1,rfl,og,(h.pick [0,1,2] (by decide)).sub ⟨rfl,rfl,rfl,rfl,(by rw [hst.1]; rfl),trivial⟩⟩
   ·
    have hd3:=of_decide_eq_false hc3
    have hq0:=r7 (i:=i) (i5 b) og
    refine gz h <| gS <| gx hK17 <| gr fun K22 hK22=>g0 (aA rfl) rfl <| gn hK22 <| gq fun K23 hK23=>gr fun K24 hK24=>g0 (ay rfl) rfl <| g0 (jT rfl rfl) rfl <| gn hK24 ?_; clear h ac wo; intro ac wo h
    refine ku h rfl (fun hc5=>?_) (fun hc5=>?_)
    ·
     have hd5:=of_decide_eq_true hc5
     rw [if_pos og,if_pos og] at hst
     refine gz h <| gR <| g0 (ay rfl) rfl <| g0 (eV rfl rfl (r:=(((((a / 4294967296 ^ i % 4294967296):Nat):Int) - (((bw a b i):Nat):Int))+4294967296)) (by rw [IntKind.wrap_i64]; omega)) rfl <| g0 (aA rfl) rfl <| g0 (aA rfl) rfl <| gn hK23 <| gR <| g0 (ay rfl) rfl <| g0 (ay rfl) rfl <| g0 (ay rfl) rfl <| g0 (a8 uu2 uu343 rfl (r:=(((a - b) / 4294967296 ^ i % 4294967296:Nat):Int)) (by rw [IntKind.wrap_u32',hst.2]; omega)) rfl ?_; clear h ac wo; intro ac wo h
     refine rd0 h (iT (i:=i) uu341 zz343 rfl rfl (h.dnn 0 rfl og) og) rfl ?_; clear h ac wo; intro ac wo h
     refine up h 0 rfl (g5 (k:=0) (u':=((a - b) / 4294967296 ^ i % 4294967296)) zz343 (jb hlt) rfl rfl rfl rfl rfl rfl rfl rfl) ?_; clear h ac wo; intro ac wo h
     replace h:=h.rowEq 0 rfl (mC)
     refine gz h <| gx (fun _ _=>fW) <| gN <| gx hK14 <| gR <| g0 (eV rfl rfl (r:=((i+1:Nat):Int)) (by rw [IntKind.wrap_i64]; omega)) rfl <| g0 (ay rfl) rfl <| gx (fun _ _=>fW) ?_; clear h ac wo; intro ac wo h
     exact az ⟨_,og,i+1,rfl,og,(h.pick [0,1,2] (by decide)).sub ⟨rfl,rfl,rfl,rfl,(by rw [hst.1]; rfl),trivial⟩⟩
    ·
     have hd5:=of_decide_eq_false hc5
     rw [if_neg og,if_neg og] at hst
     refine gz h <| gS <| gx hK23 <| gR <| g0 (ay rfl) rfl <| g0 (ay rfl) rfl <| g0 (ay rfl) rfl <| g0 (a8 uu2 uu343 rfl (r:=(((a - b) / 4294967296 ^ i % 4294967296:Nat):Int)) (by rw [IntKind.wrap_u32',hst.2]; omega)) rfl ?_; clear h ac wo; intro ac wo h
     refine rd0 h (iT (i:=i) uu341 zz343 rfl rfl (h.dnn 0 rfl og) og) rfl ?_; clear h ac wo; intro ac wo h
     refine up h 0 rfl (g5 (k:=0) (u':=((a - b) / 4294967296 ^ i % 4294967296)) zz343 (jb hlt) rfl rfl rfl rfl rfl rfl rfl rfl) ?_; clear h ac wo; intro ac wo h
     replace h:=h.rowEq 0 rfl (mC)
     refine gz h <| gx (fun _ _=>fW) <| gN <| gx hK14 <| gR <| g0 (eV rfl rfl (r:=((i+1:Nat):Int)) (by rw [IntKind.wrap_i64]; omega)) rfl <| g0 (ay rfl) rfl <| gx (fun _ _=>fW) ?_; clear h ac wo; intro ac wo h
     exact az ⟨_,og,i+1,rfl,og,(h.pick [0,1,2] (by decide)).sub ⟨rfl,rfl,rfl,rfl,(by rw [hst.1]; rfl),trivial⟩⟩
  ·
   have hd2:=of_decide_eq_false hc2
   refine kd ?_
   refine hK10 _ _ ?_
   refine qD fun K25 hK25=>?_
   have hie:i=dn a:=by omega
   subst hie
   rw [ta (i5 a) (by have:=i5 a; omega)] at h
   refine rd0 h (ay rfl) rfl ?_; clear h ac wo; intro ac wo h
   refine clq h cc275 (vs:=[sv3]) rfl (fun w_ hB_ hS_=>eU (dn a) (a - b) sv3 (by have:=i5 a; omega) (by have:=ij za; omega) w_ (row_view hS_ 0 rfl)) rfl ?_; clear h ac wo; intro ac wo h
   refine rd0 h (aA rfl) rfl <| gn hK25 <| gT ?_; clear h ac wo; intro ac wo h
   exact (rt h) (h.retP (by unfold dx; rfl) (ip za (Nat.sub_le a b)))
def ee (a b:Nat):Nat:=a*b
theorem km (a:Nat) (b:Nat) (k:Nat) (hk:(k+1)≤40) (za:SzB (k+1) a) (zb:SzB (k+1) b) (w0:World):Calls Tryz.prog 288 #[(.string (bs a)),(.string (bs b))] w0 (dh w0 (.string (bs (ee a b))) (SzB k (ee a b))):=by
 refine enter (N:=97) (args:=[(.string (bs a)),(.string (bs b))]) Tryz.func288 rfl rfl ?_; intro ac h
 have hda:=mf za
 have hdb:=mf zb
 refine qD fun K1 hK1=>?_
 refine rd0 h (aA rfl) rfl <| gn hK1 ?_; clear h ac; intro ac wo h
 refine xj (fun a_ w_=>St w0 97 [(0,(.string (bs a))),(1,(.string (bs b)))] [] a_ w_) (fun K2 hK2=>?_) ?_
 ·
  refine gz h <| gr fun K3 hK3=>g0 (ay rfl) rfl <| g0 (ay rfl) rfl <| gl cc200 rfl (gG a b) rfl <| g0 (ay rfl) rfl <| g0 (cY rfl rfl) rfl <| g0 (cY rfl rfl) rfl <| g0 (cY rfl rfl) rfl <| g0 (aA rfl) rfl <| g0 (aA rfl) rfl <| g0 (aA rfl) rfl <| gn hK3 <| gr fun K4 hK4=>g0 (ay rfl) rfl <| gn hK4 ?_; clear h ac wo; intro ac wo h
  refine ku h rfl (fun hc1=>?_) (fun hc1=>?_)
  ·
   obtain ⟨ha6,hb6,hw⟩:=lG hc1
   simp only [hw] at h
   refine gz h <| gr fun K5 hK5=>g0 (ay rfl) rfl <| g0 (ay rfl) rfl <| gl Tryz.call325 rfl (mul64 a b og og) rfl <| g0 (ay rfl) rfl <| g0 (cY rfl rfl) rfl <| g0 (cY rfl rfl) rfl <| g0 (aA rfl) rfl <| g0 (aA rfl) rfl <| gn hK5 <| gr fun K6 hK6=>g0 (ay rfl) rfl <| g0 (ur rfl rfl) rfl <| gn hK6 ?_; clear h ac wo; intro ac wo h
   refine ku h rfl (fun hc2=>?_) (fun hc2=>?_)
   ·
    have hd2:=eq_of_beq hc2
    refine gz h <| gr fun K7 hK7=>g0 (ay rfl) rfl <| gl cc202 rfl (dz (a*b % 18446744073709551616) og) rfl <| g0 (aA rfl) rfl <| gn hK7 <| gT ?_; clear h ac wo; intro ac wo h
    have hd:ee a b=(bK (a*b % 18446744073709551616)):=(by show a*b=a*b % 18446744073709551616; omega)
    exact (rt h) (h.retP (by rw [hd] <;> rfl) (aat za zb))
   ·
    have hd2:=ne_of_beq_false hc2
    refine nJ ?_
    exact hK2 _ _ ((h.pick [] (by decide)).sub ⟨rfl,rfl,trivial⟩)
  ·
   refine nJ ?_
   exact hK2 _ _ ((h.pick [] (by decide)).sub ⟨rfl,rfl,trivial⟩)
 ·
  clear h ac wo; intro ac wo h
  refine gz h <| gr fun K8 hK8=>g0 (ay rfl) rfl ?_; clear h ac wo; intro ac wo h
  refine clr (xs:=(dgs (dn a) a)) h cc273 (vs:=[(.string (bs a))]) rfl (kk (d7 a (kr za))) rfl ?_; clear h ac wo; intro sv1 ac wo hpsv1 h
  refine rd0 h (ay rfl) rfl ?_; clear h ac wo; intro ac wo h
  refine clr (xs:=(dgs (dn b) b)) h cc273 (vs:=[(.string (bs b))]) rfl (kk (d7 b (kr zb))) rfl ?_; clear h ac wo; intro sv2 ac wo hpsv2 h
  refine rd0 h (aA rfl) rfl <| g0 (aA rfl) rfl <| gn hK8 <| gr fun K9 hK9=>g0 (ay rfl) rfl ?_; clear h ac wo; intro ac wo h
  refine rd0 h (g9 uu341 rfl (h.dsl 1 rfl)) rfl <| g0 (ay rfl) rfl ?_; clear h ac wo; intro ac wo h
  refine rd0 h (g9 uu341 rfl (h.dsl 0 rfl)) rfl <| g0 (eV rfl rfl (r:=(((dn a)+(dn b):Nat):Int)) (by have:=ij za; have:=ij zb; rw [IntKind.wrap_i64]; omega)) rfl <| g0 (eV rfl rfl (r:=((((dn a)+(dn b))+1:Nat):Int)) (by have:=ij za; have:=ij zb; rw [IntKind.wrap_i64]; omega)) rfl ?_; clear h ac wo; intro ac wo h
  refine nw h (mu (n:=(((dn a)+(dn b))+1)) ((0:Nat)) rfl pE rfl rfl rfl (by have:=mf za; have:=mf zb; omega) (by have:=mf za; have:=mf zb; omega)) rfl ?_; clear h ac wo; intro sv3 ac wo nnsv3 h
  refine rd0 h (aA rfl) rfl <| gn hK9 <| gq fun K10 hK10=>gr fun K11 hK11=>g0 (ay rfl) rfl ?_; clear h ac wo; intro ac wo h
  refine rd0 h (g9 uu341 rfl (h.dsl 2 rfl)) rfl <| g0 (ay rfl) rfl <| gn hK11 <| gB ?_; clear h ac wo; intro ac wo h
  replace h:=h.rowEq 0 rfl (by rw [show a % 4294967296 ^ 0*b=0 by simp [Nat.mod_one]]; exact (nH _).symm:(List.replicate (((dn a)+(dn b))+1) (0:Nat))=(dgs (dn a+dn b+1) (a % 4294967296 ^ 0*b)))
  refine wp_loop_ghost (fun n_ a_ w_=>∃ (i:Nat),n_=dn a - i∧(i≤dn a)∧St w0 97 [(11,sv2),(12,sv3),(46,sv1),(47,(.int .i64 (((dn a):Nat):Int))),(48,(.int .i64 ((i:Nat):Int)))] [.row (α:=Nat) 343 sv3 (dgs (dn a+dn b+1) (a % 4294967296 ^ i*b)),.row (α:=Nat) 343 sv2 (dgs (dn b) b),.row (α:=Nat) 343 sv1 (dgs (dn a) a)] a_ w_) _ ⟨0,rfl,og,h.re [0,1,2]⟩ ?_
  clear h ac wo; rintro _ ac wo ⟨i,rfl,hi,h⟩
  refine gz h <| gr fun K12 hK12=>g0 (jT rfl rfl) rfl <| gn hK12 <| gq fun K13 hK13=>?_; clear h ac wo; intro ac wo h
  refine ku h rfl (fun hc3=>?_) (fun hc3=>?_)
  ·
   have hd3:=of_decide_eq_true hc3
   refine gz h <| gS <| gx hK13 <| gq fun K14 hK14=>gB <| gr fun K15 hK15=>g0 (ay rfl) rfl ?_; clear h ac wo; intro ac wo h
   refine rd0 h (iT (i:=i) uu341 zz343 rfl rfl (h.dnn 2 rfl og) og) rfl <| g1 2 rfl (iM (k:=0) aa343 zz343 (d9 (n:=(dn a)) og) rfl (Nat.add_zero _) rfl rfl (v:=(.int .u32 (((a / 4294967296 ^ i % 4294967296):Nat):Int))) rfl) rfl <| g0 (aA rfl) rfl <| g0 (aA rfl) rfl <| gn hK15 <| gr fun K16 hK16=>g0 (aA rfl) rfl <| gn hK16 <| gq fun K17 hK17=>gr fun K18 hK18=>g0 (ay rfl) rfl ?_; clear h ac wo; intro ac wo h
   refine rd0 h (g9 uu341 rfl (h.dsl 1 rfl)) rfl <| g0 (ay rfl) rfl <| gn hK18 <| gB ?_; clear h ac wo; intro ac wo h
   have hlt:i < dn a:=by omega
   replace h:=h.rowEq 0 rfl (by show _=dgs _ (mx (a % 4294967296 ^ i*b) i (a % 4294967296 ^ (i+1)*b)); rw [yt,mx_start]:(dgs (dn a+dn b+1) (a % 4294967296 ^ i*b))=(dgs (dn a+dn b+1) (mx (a % 4294967296 ^ i*b) (i+0) (a % 4294967296 ^ (i+1)*b))))
   refine wp_loop_ghost (fun n_ a_ w_=>∃ (k:Nat),n_=dn b - k∧(k≤dn b)∧St w0 97 [(11,sv2),(12,sv3),(46,sv1),(47,(.int .i64 (((dn a):Nat):Int))),(48,(.int .i64 ((i:Nat):Int))),(13,(.int .i64 ((i:Nat):Int))),(14,(.int .u32 (((a / 4294967296 ^ i % 4294967296):Nat):Int))),(54,(.int .i64 (((dn b):Nat):Int))),(55,(.int .i64 ((k:Nat):Int))),(15,(.int .u64 (((mc (a % 4294967296 ^ i*b / 4294967296 ^ i) (a / 4294967296 ^ i % 4294967296) b k):Nat):Int)))] [.row (α:=Nat) 343 sv3 (dgs (dn a+dn b+1) (mx (a % 4294967296 ^ i*b) (i+k) (a % 4294967296 ^ (i+1)*b))),.row (α:=Nat) 343 sv2 (dgs (dn b) b),.row (α:=Nat) 343 sv1 (dgs (dn a) a)] a_ w_) _ ⟨0,rfl,og,(h.pick [0,1,2] (by decide)).sub ⟨rfl,rfl,rfl,rfl,rfl,rfl,rfl,rfl,rfl,(by rw [yI]; rfl),trivial⟩⟩ ?_
   clear h ac wo; rintro _ ac wo ⟨k,rfl,hk,h⟩
   refine gz h <| gr fun K19 hK19=>g0 (jT rfl rfl) rfl <| gn hK19 <| gq fun K20 hK20=>?_; clear h ac wo; intro ac wo h
   refine ku h rfl (fun hc4=>?_) (fun hc4=>?_)
   ·
    have hd4:=of_decide_eq_true hc4
    refine gz h <| gS <| gx hK20 <| gq fun K21 hK21=>gB <| gr fun K22 hK22=>g0 (ay rfl) rfl <| g0 (aA rfl) rfl <| gn hK22 <| gq fun K23 hK23=>?_; clear h ac wo; intro ac wo h
    have hlk:i+k < dn a+dn b+1:=by omega
    have hcl:(mc (a % 4294967296 ^ i*b / 4294967296 ^ i) (a / 4294967296 ^ i % 4294967296) b k) < 4294967296:=mc_lt (Nat.mod_lt _ (by decide))
    have hdig:=pp_digit a b i k
    have hnx:=pp_carry a b i k
    have hml:=ow (x:=(a / 4294967296 ^ i % 4294967296)) (y:=b / 4294967296 ^ k % 4294967296) (Nat.mod_lt _ (by decide)) (Nat.mod_lt _ (by decide))
    refine fU mixed [dv _,dv _,dv _,dv _,dv _,dv _,dw _ [0],dv _,dv _,dv _,dv _,dv _,dv _,dw _ [1],dv _,dv _,dv _,dv _,dv _] [⟨_,[]⟩,⟨_,[]⟩,⟨_,[]⟩] h rfl (by kernel_rfl) ⟨fun _ _=>om rfl,fun _ _=>om rfl,fun _ _=>om rfl,fun _ _=>om rfl,fun _ _=>bk (eV rfl rfl (r:=((i+k:Nat):Int)) (by have:=ij za; have:=ij zb; rw [IntKind.wrap_i64]; omega)),fun _ _=>bk (iT (i:=(i+k)) uu341 zz343 rfl rfl (h.dnn 0 rfl og) og),fun _ _=>jB _ rfl rfl (iM (k:=0) aa343 zz343 (jb hlk) rfl (Nat.add_zero _) rfl rfl (v:=(.int .u32 ((((a % 4294967296 ^ i*b) / 4294967296 ^ (i+k) % 4294967296):Nat):Int))) rfl),fun _ _=>bk (a8 uu343 uu260 rfl (r:=((((a % 4294967296 ^ i*b) / 4294967296 ^ (i+k) % 4294967296):Nat):Int)) (by rw [IntKind.wrap_u64]; omega)),fun _ _=>om rfl,fun _ _=>bk (a8 uu343 uu260 rfl (r:=(((a / 4294967296 ^ i % 4294967296):Nat):Int)) (by rw [IntKind.wrap_u64]; omega)),fun _ _=>om rfl,fun _ _=>om rfl,fun _ _=>bk (iT (i:=k) uu341 zz343 rfl rfl (h.dnn 1 rfl og) og),fun _ _=>jB _ rfl rfl (iM (k:=0) aa343 zz343 (d9 (n:=(dn b)) og) rfl (Nat.add_zero _) rfl rfl (v:=(.int .u32 (((b / 4294967296 ^ k % 4294967296):Nat):Int))) rfl),fun _ _=>bk (a8 uu343 uu260 rfl (r:=(((b / 4294967296 ^ k % 4294967296):Nat):Int)) (by rw [IntKind.wrap_u64]; omega)),fun _ _=>bk (lD rfl rfl (r:=(((a / 4294967296 ^ i % 4294967296)*(b / 4294967296 ^ k % 4294967296):Nat):Int)) (by rw [IntKind.wrap_u64]; omega)),fun _ _=>bk (eV rfl rfl (r:=((((a % 4294967296 ^ i*b) / 4294967296 ^ (i+k) % 4294967296)+((a / 4294967296 ^ i % 4294967296)*(b / 4294967296 ^ k % 4294967296)):Nat):Int)) (by rw [IntKind.wrap_u64]; omega)),fun _ _=>bk (eV rfl rfl (r:=(((mc (a % 4294967296 ^ i*b / 4294967296 ^ i) (a / 4294967296 ^ i % 4294967296) b k)+(((a % 4294967296 ^ i*b) / 4294967296 ^ (i+k) % 4294967296)+((a / 4294967296 ^ i % 4294967296)*(b / 4294967296 ^ k % 4294967296))):Nat):Int)) (by rw [IntKind.wrap_u64]; omega)),fun _ _=>bk (aA rfl),trivial⟩ ?_
    clear h ac wo; intro ξ ac wo hφ h
    replace h:St w0 97 [(11,sv2),(12,sv3),(46,sv1),(47,(.int .i64 (((dn a):Nat):Int))),(48,(.int .i64 ((i:Nat):Int))),(13,(.int .i64 ((i:Nat):Int))),(14,(.int .u32 (((a / 4294967296 ^ i % 4294967296):Nat):Int))),(54,(.int .i64 (((dn b):Nat):Int))),(55,(.int .i64 ((k:Nat):Int))),(15,(.int .u64 (((mc (a % 4294967296 ^ i*b / 4294967296 ^ i) (a / 4294967296 ^ i % 4294967296) b k)+(((a % 4294967296 ^ i*b) / 4294967296 ^ (i+k) % 4294967296)+((a / 4294967296 ^ i % 4294967296)*(b / 4294967296 ^ k % 4294967296))):Nat):Int))),(16,(.int .i64 ((k:Nat):Int)))] [.row (α:=Nat) 343 sv3 (dgs (dn a+dn b+1) (mx (a % 4294967296 ^ i*b) (i+k) (a % 4294967296 ^ (i+1)*b))),.row (α:=Nat) 343 sv2 (dgs (dn b) b),.row (α:=Nat) 343 sv1 (dgs (dn a) a)] ac wo:=h.sub ⟨rfl,rfl,rfl,rfl,rfl,rfl,rfl,rfl,rfl,rfl,rfl,trivial⟩
    clear hφ ξ
    refine gz h <| gx hK23 <| gR <| g0 (ay rfl) rfl <| g0 (ay rfl) rfl <| g0 (ay rfl) rfl <| g0 (eV rfl rfl (r:=((i+k:Nat):Int)) (by have:=ij za; have:=ij zb; rw [IntKind.wrap_i64]; omega)) rfl <| g0 (ay rfl) rfl <| g0 (a8 uu260 uu343 rfl (r:=(((a % 4294967296 ^ (i+1)*b) / 4294967296 ^ (i+k) % 4294967296:Nat):Int)) (by rw [IntKind.wrap_u32',hdig]; omega)) rfl <| g0 (ay rfl) rfl <| g0 (ng rfl rfl (r:=(((mc (a % 4294967296 ^ i*b / 4294967296 ^ i) (a / 4294967296 ^ i % 4294967296) b (k+1)):Nat):Int)) (by decide) (by decide) (by rw [show (2:Int) ^ ((32:Int)).toNat=4294967296 from rfl]; rw [hnx]; omega)) rfl ?_; clear h ac wo; intro ac wo h
    refine rd0 h (iT (i:=(i+k)) uu341 zz343 rfl rfl (h.dnn 0 rfl og) og) rfl ?_; clear h ac wo; intro ac wo h
    refine up h 0 rfl (g5 (k:=0) (u':=((a % 4294967296 ^ (i+1)*b) / 4294967296 ^ (i+k) % 4294967296)) zz343 (jb hlk) rfl rfl rfl rfl rfl rfl rfl rfl) ?_; clear h ac wo; intro ac wo h
    replace h:=h.rowEq 0 rfl (mC)
    refine rd0 h (aA rfl) rfl <| gx (fun _ _=>fW) <| gN <| gx hK21 <| gR <| g0 (eV rfl rfl (r:=((k+1:Nat):Int)) (by have:=ij zb; rw [IntKind.wrap_i64]; omega)) rfl <| g0 (ay rfl) rfl <| gx (fun _ _=>fW) ?_; clear h ac wo; intro ac wo h
    exact az ⟨_,og,k+1,rfl,og,h.re [0,1,2]⟩
   ·
    have hd4:=of_decide_eq_false hc4
    refine kd ?_
    refine hK17 _ _ ?_
    refine c_r ?_
    have hke:k=dn b:=by omega
    subst hke
    have hlk:i+dn b < dn a+dn b+1:=by omega
    have hlast:=pp_last (a:=a) (i:=i) (i5 b)
    refine rd0 h (ay rfl) rfl <| g0 (ay rfl) rfl <| g0 (ay rfl) rfl ?_; clear h ac wo; intro ac wo h
    refine rd0 h (g9 uu341 rfl (h.dsl 1 rfl)) rfl <| g0 (eV rfl rfl (r:=((i+(dn b):Nat):Int)) (by have:=ij za; have:=ij zb; rw [IntKind.wrap_i64]; omega)) rfl <| g0 (ay rfl) rfl <| g0 (a8 uu260 uu343 rfl (r:=(((a % 4294967296 ^ (i+1)*b) / 4294967296 ^ (i+dn b) % 4294967296:Nat):Int)) (by rw [hlast,IntKind.wrap_u32']; omega)) rfl ?_; clear h ac wo; intro ac wo h
    refine rd0 h (iT (i:=(i+(dn b))) uu341 zz343 rfl rfl (h.dnn 0 rfl og) og) rfl ?_; clear h ac wo; intro ac wo h
    refine up h 0 rfl (g5 (k:=0) (u':=((a % 4294967296 ^ (i+1)*b) / 4294967296 ^ (i+dn b) % 4294967296)) zz343 (jb hlk) rfl rfl rfl rfl rfl rfl rfl rfl) ?_; clear h ac wo; intro ac wo h
    replace h:=h.rowEq 0 rfl (by rw [mC,ta (Nat.lt_of_lt_of_le (pp_lt (a:=a) (i:=i) (i5 b)) (Nat.pow_le_pow_right (by decide) og)) (Nat.lt_of_lt_of_le (pp_lt (a:=a) (i:=i+1) (i5 b)) (Nat.pow_le_pow_right (by decide) og))])
    refine gz h <| gx (fun _ _=>fW) <| gN <| gx hK14 <| gR <| g0 (eV rfl rfl (r:=((i+1:Nat):Int)) (by have:=ij za; rw [IntKind.wrap_i64]; omega)) rfl <| g0 (ay rfl) rfl <| gx (fun _ _=>fW) ?_; clear h ac wo; intro ac wo h
    exact az ⟨_,og,i+1,rfl,og,h.re [0,1,2]⟩
  ·
   have hd3:=of_decide_eq_false hc3
   refine kd ?_
   refine hK10 _ _ ?_
   refine qD fun K24 hK24=>?_
   have hie:i=dn a:=by omega
   subst hie
   rw [Nat.mod_eq_of_lt (i5 a)] at h
   refine rd0 h (ay rfl) rfl ?_; clear h ac wo; intro ac wo h
   refine clq h cc275 (vs:=[sv3]) rfl (fun w_ hB_ hS_=>eU (dn a+dn b+1) (a*b) sv3 (by have:=pp_lt (a:=a) (i:=dn a) (i5 b); rw [Nat.mod_eq_of_lt (i5 a)] at this; exact Nat.lt_of_lt_of_le this (Nat.pow_le_pow_right (by decide) og)) (by have:=mf za; have:=mf zb; omega) w_ (row_view hS_ 0 rfl)) rfl ?_; clear h ac wo; intro ac wo h
   refine rd0 h (aA rfl) rfl <| gn hK24 <| gT ?_; clear h ac wo; intro ac wo h
   exact (rt h) (h.retP (by unfold ee; rfl) (aat za zb))
def aw (n:Int):GI:=⟨decide (n < 0),n.natAbs⟩
theorem eR (n:Int) (k:Nat) (hk:k≤40) (hn:-9223372036854775808≤n∧n≤9223372036854775807) (w0:World):Calls Tryz.prog 199 #[(.int .i64 n)] w0 (dh w0 (vI (aw n)) (SzI k (aw n))):=by
 refine enter (N:=15) (args:=[(.int .i64 n)]) Tryz.func199 rfl rfl ?_; intro ac h
 have hsz:SzB k n.natAbs:=Nat.le_trans (Nat.mul_le_mul ((cS 8 n.natAbs).2 (by simp; omega)) (Nat.pow_le_pow_right (by decide) (by omega:k≤40))) (by decide)
 refine gz h <| (xa) fun b1=>(xo (hs:=by exact a8 Tryz.runUnderlying3 uu260 rfl (r:=((if n < 0 then 18446744073709551616 - n.natAbs else n.natAbs:Nat):Int)) (by rw [IntKind.wrap_u64]; split <;> omega))) <| (ai) ?_ ?_ <;> clear h ac <;> intro ac wo h hc1
 ·
  have hd1:=of_decide_eq_true hc1
  have c1:=cu (decide (n < 0)) (bK n.natAbs) k og hsz
  have s1:=ar (c1 w0)
  have hd:aw n=(aD (decide (n < 0)) (bK n.natAbs)):=(by unfold aw aD bK; simp; omega)
  refine gz h <| (xo (hs:=by exact r_neg rfl (r:=((n.natAbs:Nat):Int)) (by rw [if_pos hd1,IntKind.wrap_u64]; omega))) <| (xk (dz n.natAbs og)) <| (xk c1) <| (W) ?_; clear h ac wo; intro ac wo h
  exact ret h rfl (.cell (v:=(vI (aD (decide (n < 0)) (bK n.natAbs)))) rfl (i:=0) rfl aa27 zz27 rfl rfl rfl .nil) rfl (h.retP (by rw [hd] <;> rfl) (by rw [hd]; exact s1))
 ·
  have hd1:=of_decide_eq_false hc1
  rw [if_neg hd1] at h
  have c2:=cu (decide (n < 0)) (bK n.natAbs) k og hsz
  have s2:=ar (c2 w0)
  have hd:aw n=(aD (decide (n < 0)) (bK n.natAbs)):=(by unfold aw aD bK; simp; omega)
  refine gz h <| (xk (dz n.natAbs og)) <| (xk c2) <| (W) ?_; clear h ac wo; intro ac wo h
  exact ret h rfl (.cell (v:=(vI (aD (decide (n < 0)) (bK n.natAbs)))) rfl (i:=0) rfl aa27 zz27 rfl rfl rfl .nil) rfl (h.retP (by rw [hd] <;> rfl) (by rw [hd]; exact s2))
end Go.Sx
