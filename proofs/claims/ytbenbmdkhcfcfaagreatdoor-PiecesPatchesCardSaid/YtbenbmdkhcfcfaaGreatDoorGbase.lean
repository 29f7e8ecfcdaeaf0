import Derived.Test.YtbenbmdkhcfcfaaGreatDoorProg
import Derived.Test.YtbenbmdkhcfcfaaGreatDoorAx
import Derived.Test.YtbenbmdkhcfcfaaGreatDoorExt
set_option linter.unusedVariables false
set_option linter.unusedSimpArgs false
open Go.Proofs.Tryz renaming prog → zP, sizeOf4 → zz4, sizeOf25 → zz25, underlying335 → nn335, underlying339 → nn339, isAgg25 → aa25, runUnderlying9 → uu9, runUnderlying5 → uu5, runUnderlying254 → uu254, runUnderlying334 → uu334, sizeOf5 → zz5, underlying5 → nn5, underlying9 → nn9, runUnderlying339 → uu339, sizeOf341 → zz341, isAgg341 → aa341, runUnderlying341 → uu341, runUnderlying335 → uu335, runUnderlying358 → uu358, sizeOf3 → zz3, call231 → cc231, call191 → cc191, call257 → cc257, call258 → cc258, runUnderlying2 → uu2
open Go.IntKind renaming wrap_i64 → wI
namespace Go.Sx
open Go Go.RowKit Go.Proofs
set_option maxRecDepth 100000
set_option maxHeartbeats 40000000
attribute [local irreducible] Code.wp wpList Rd gW ObS Ent
theorem mixed:Tryz.prog.follows .mixedOrders=true:=by kernel_rfl
theorem qB:BuildF zP 25 [.bool false,.string ⟨#[]⟩] [(0,1),(1,1)]:=BuildF.of Tryz.zeroValue25 rfl Tryz.runUnderlying25 (by intro w; simp [zz4,Tryz.sizeOf9])
theorem qg:BuildF zP 27 (zc [2,2]) [(0,2),(2,2)]:=BuildF.of Tryz.zeroValue27 rfl Tryz.runUnderlying27 (by intro w; simp [zz25])
theorem yU:BuildF zP 53 (zc [2,2,2,2,2,2]) [(0,4),(4,4),(8,4)]:=BuildF.of Tryz.zeroValue53 rfl Tryz.runUnderlying53 (by intro w; simp [Tryz.sizeOf27])
theorem bld71:BuildF zP 71 (zc [2,2,2,2,1]) [(0,4),(4,4),(8,1)]:=BuildF.of Tryz.zeroValue71 rfl Tryz.runUnderlying71 (by intro w; simp [Tryz.sizeOf27,zz4])
theorem qf:BuildF zP 86 (zc [2,2,2,2,1,2,2,2,2,1,1,1]) [(0,9),(9,9),(18,1),(19,1)]:=BuildF.of Tryz.zeroValue86 rfl Tryz.runUnderlying86 (by intro w; simp [zz4,Tryz.sizeOf71])
theorem jh:BuildF zP 126 (zc [2,2,2,2,1,2,2,2,2,1,1,1,2,2,2,2,2,2]) [(0,20),(20,12)]:=BuildF.of Tryz.zeroValue126 rfl Tryz.runUnderlying126 (by intro w; simp [Tryz.sizeOf53,Tryz.sizeOf86])
theorem slt335:SlT zP 335 5 1 1 [.int .u8 0]:=⟨nn335,Tryz.t5,_,Tryz.type5,rfl,rfl,rfl,rfl,rfl,by decide,by decide⟩
theorem px:SlT zP 339 341 1 4 [.int .u32 0]:=⟨nn339,Tryz.t341,_,Tryz.type341,rfl,rfl,rfl,rfl,rfl,by decide,by decide⟩
theorem slt358:SlT zP 358 3 1 8 [.int .i64 0]:=⟨Tryz.underlying358,Tryz.t3,_,Tryz.type3,rfl,rfl,rfl,rfl,rfl,by decide,by decide⟩
def aQ (neg:Bool) (mag:Nat):GI :=
 (⟨(neg && (!(decide (mag=0)))),mag⟩:GI)
theorem cg (neg:Bool) (mag:Nat) (k:Nat) (hk:k≤40) (zmag:SzB k mag) (w0:World):Calls zP 190 #[(.bool neg),(.string (bs mag))] w0 (RetP w0 (vI (aQ neg mag)) (SzI k (aQ neg mag))):=by
 refine enter (N:=12) Tryz.func190 rfl rfl ?_; intro ac h
 refine gz h <| (xa) fun b1=>(xo (hs:=by exact bN qB exs rfl (v:=(vI (⟨(neg && (!(decide (mag=0)))),mag⟩:GI))) rfl)) <| (W) ?_; clear h; intro _ _ h
 exact ret h rfl (.cell (v:=(vI (⟨(neg && (!(decide (mag=0)))),mag⟩:GI))) rfl (i:=0) rfl aa25 zz25 rfl rfl rfl .nil) rfl (h.retP (by unfold aQ; rfl) (by unfold aQ; exact zmag))
theorem my (m:Nat) (w0:World):Calls zP 249 #[(.string (bs m))] w0 (RetP w0 (.tuple #[(.int .u64 ((eG m).1:Int)),(.bool ((eG m).2))]) (True)):=by
 refine enter (N:=23) Tryz.func249 rfl rfl ?_; intro ac h
 refine gz h <| (xo (hs:=by exact oR uu9 rfl)) <| (ai) ?_ ?_ <;> clear h <;> intro _ _ h hc1
 ·
  have hd1:=of_decide_eq_true hc1
  have hd:eG m=(0,false):=wA (by rw [fQ] at hd1; omega)
  exact (rx h) fun _ _ h=>(h.retP (by rw [hd] <;> rfl) trivial)
 ·
  have hd1:=of_decide_eq_false hc1
  refine gz h <| (xo (hs:=by exact oR uu9 rfl)) <| (W) ?_; clear h; intro _ _ h
  have h8:(le m).length≤8:=by rw [fQ] at hd1; omega
  have hm:=rG m
  have h0:m / 256 ^ ((le m).length - 0)=0:=Nat.div_eq_of_lt (by simpa using hm)
  refine wp_loop_ghost (fun n_ a_ w_=>∃ (i:Nat),n_=(le m).length - i∧(i≤(le m).length)∧St w0 23 [(0,(.string (bs m))),(10,(.int .i64 ((bs m).size:Int))),(11,(.int .i64 (i:Int))),(4,(.int .u64 ((m / 256 ^ ((le m).length - i):Nat):Int)))] [] a_ w_) _ ⟨0,rfl,og,(h.pick [] DC).sub ⟨rfl,rfl,rfl,(congrArg (fun x:Nat=>some (Value.int .u64 (x:Int))) h0.symm),trivial⟩⟩ ?_
  clear h; rintro _ _ _ ⟨i,rfl,hi,h⟩
  refine gz h <| (ai) ?_ ?_ <;> clear h <;> intro _ _ h hc2
  ·
   have hd2:=of_decide_eq_true hc2
   refine gz h <| (W) ?_; clear h; intro _ _ h
   have hlt:i < (le m).length:=by rw [fQ] at hd2; omega
   have hub:=Nat.lt_of_lt_of_le (pv_lt m (le m).length i hm og) (Nat.pow_le_pow_right (n:=256) DC (show i≤7 by omega))
   have hbg:=bs_get (n:=m) (i:=i) (by rw [fQ]; omega)
   refine gz h <| (xo (hs:=by exact sw rfl rfl (r:=((m / 256 ^ ((le m).length - i)*2 ^ 8:Nat):Int)) og (by first | decide | (simp [IntKind.bits] <;> omega)) (qC rfl og))) <| (xo (hs:=by exact rg (i:=i) uu9 rfl rfl (by rw [fQ]; omega))) <| (xo (hs:=by exact be uu5 uu254 rfl (r:=(((bs m)[i]'(by rw [fQ]; omega)).toNat:Int)) (by rw [IntKind.wrap_u64]; omega))) <| (xo (hs:=by exact tT rfl rfl (r:=((m / 256 ^ ((le m).length - i)*256+m / 256 ^ ((le m).length - 1 - i) % 256:Nat):Int)) (by rw [hbg,kC (k:=8) _ _ og og og]))) <| (W) ?_; clear h; intro _ _ h
   rw [be_step m (le m).length i (by rw [fQ] at hd2; omega)] at h
   exact aD ⟨_,(by rw [fQ] at hd2; omega),i+1,rfl,(by rw [fQ] at hd2; omega),h.re []⟩
  ·
   have hd2:=of_decide_eq_false hc2
   have hd:eG m=((m / 256 ^ ((le m).length - i)),true):=(by rw [uv og,show (le m).length - i=0 by rw [fQ] at hd2; omega]; simp)
   exact (rx h) fun _ _ h=>(h.retP (by rw [hd] <;> rfl) trivial)
def g9 (a:Nat) (b:Nat):Nat×Nat×Bool :=
 ((eG a).1,(eG b).1,((eG a).2 && (eG b).2))
theorem ib (a:Nat) (b:Nat) (w0:World):Calls zP 231 #[(.string (bs a)),(.string (bs b))] w0 (RetP w0 (.tuple #[(.int .u64 ((g9 a b).1:Int)),(.int .u64 ((g9 a b).2.1:Int)),(.bool ((g9 a b).2.2))]) (True)):=by
 refine enter (N:=24) Tryz.func231 rfl rfl ?_; intro ac h
 refine gz h <| (xk (my a)) <| (xk (my b)) <| (W) ?_; clear h; intro _ _ h
 exact ret h rfl (.tmp rfl (.tmp rfl (.tmp rfl .nil))) rfl (h.retP (by unfold g9; rfl) trivial)
theorem l8 {a b:Nat} (h:(g9 a b).2.2=true):a < 18446744073709551616∧b < 18446744073709551616∧g9 a b=(a,b,true):=by
 unfold g9 at *
 rw [uu a,uu b] at *
 split at h <;> split at h <;> simp_all
theorem dy (u:Nat) (hu:u < 18446744073709551616) (w0:World):Calls zP 191 #[(.int .u64 (u:Int))] w0 (RetP w0 (.string (bs (bO u))) (True)):=by
 refine enter (N:=30) Tryz.func191 rfl rfl ?_; intro ac h
 refine pm fun K1 hK1=>?_
 refine rd0 h (ay rfl) rfl <| gn hK1 <| gq fun K2 hK2=>gr fun K3 hK3=>g0 (ap rfl) rfl <| g0 (rh rfl rfl) rfl <| gn hK3 ?_; clear h; intro _ _ h
 refine kA h rfl (fun hc1=>?_) (fun hc1=>?_)
 ·
  have hd1:=eq_of_beq hc1
  refine gz h <| gr fun K4 hK4=>g0 (ay rfl) rfl <| gn hK4 <| gT ?_; clear h; intro _ _ h
  have hd:bO u=0:=(by unfold bO; omega)
  exact (rt h) (h.retP (by rw [hd] <;> rfl) trivial)
 ·
  have hd1:=ne_of_beq_false hc1
  refine gz h <| gS <| gx hK2 <| gr fun K5 hK5=>g0 (ap rfl) rfl <| gl Tryz.call255 rfl (vu u (by assumption)) rfl <| g0 (eH rfl rfl (r:=(((Lib.bitLen u)+7:Nat):Int)) (by have:=qh hu; rw [wI]; omega)) rfl <| g0 (sx rfl rfl (r:=((le u).length:Int)) og (by have h1:=qh hu; have h2:=mH u hu; rw [Int.tdiv_eq_ediv_of_nonneg og,wI]; omega)) rfl <| g0 (ay rfl) rfl <| gn hK5 <| gr fun K6 hK6=>ga (flat (List.replicate 8 (0:UInt8))) Tryz.zeroValue334 rfl rfl fun b1=>gn hK6 <| gq fun K7 hK7=>gr fun K8 hK8=>g0 (ap rfl) rfl <| g0 (ap rfl) rfl <| gn hK8 <| gB ?_; clear h; intro _ _ h
  have hL:(le u).length≤8:=(d4 8 u).2 hu
  have hp:0 < u:=by omega
  have hLp:0 < (le u).length:=by rw [pK hp]; simp
  refine wp_loop_ghost (fun n_ a_ w_=>∃ (i:Nat) (bl:List UInt8),n_=(le u).length - i∧(i≤(le u).length)∧(Mag u (le u).length i bl)∧St w0 30 [(0,(.int .u64 (u:Int))),(3,(iN ((le u).length))),(4,(ptr b1 0)),(12,(iN ((le u).length))),(13,(iN i))] [.blk b1 (flat bl) 334] a_ w_) _ ⟨0,(List.replicate 8 (0:UInt8)),rfl,og,(Mag.zero _ _),h.re [0]⟩ ?_
  clear h; rintro _ _ _ ⟨i,bl,rfl,hi,hM,h⟩
  refine gz h <| gr fun K9 hK9=>g0 (j7 rfl rfl) rfl <| gn hK9 <| gq fun K10 hK10=>?_; clear h; intro _ _ h
  refine kA h rfl (fun hc2=>?_) (fun hc2=>?_)
  ·
   have hd2:=of_decide_eq_true hc2
   refine gz h <| gS <| gx hK10 <| gq fun K11 hK11=>gB <| gr fun K12 hK12=>g0 (ap rfl) rfl <| g0 (ay rfl) rfl <| gn hK12 <| gR ?_; clear h; intro _ _ h
   have hlt:i < (le u).length:=by omega
   refine rd0 h (ap rfl) rfl <| g0 (fh rfl rfl (r:=(((le u).length - 1:Nat):Int)) (by rw [wI]; omega)) rfl <| g0 (ap rfl) rfl <| g0 (fh rfl rfl (r:=(((le u).length - 1 - i:Nat):Int)) (by rw [wI]; omega)) rfl <| g0 (ap rfl) rfl <| g0 (ap rfl) rfl <| g0 (mg rfl rfl (r:=((8*i:Nat):Int)) (by rw [wI]; omega)) rfl <| g0 (ni rfl rfl (r:=((u / 256 ^ i:Nat):Int)) og (by simp [IntKind.bits] <;> omega) (by rw [show (((8*i:Nat):Int)).toNat=8*i by omega,xB]; simp)) rfl <| g0 (be uu254 uu5 rfl (r:=((UInt8.ofNat (u / 256 ^ i % 256)).toNat:Int)) (by rw [IntKind.wrap_u8,UInt8.toNat_ofNat']; omega)) rfl <| g0 (vY (i:=((le u).length - 1 - i)) uu334 zz5 rfl rfl og) rfl ?_; clear h; intro _ _ h
   refine up h 0 rfl (s_stA zz5 rfl rfl rfl (by rw [hM.1]; omega)) ?_; clear h; intro _ _ h
   refine gz h <| gx (fun _ _=>fX) <| gN <| gx hK11 <| gR <| g0 (eH rfl rfl (r:=((i+1:Nat):Int)) (by rw [wI]; omega)) rfl <| g0 (ap rfl) rfl <| gx (fun _ _=>fX) ?_; clear h; intro _ _ h
   exact aD ⟨_,og,i+1,_,rfl,og,(hM.next og hL),h.re [0]⟩
  ·
   have hd2:=of_decide_eq_false hc2
   refine kd ?_
   refine hK7 _ _ ?_
   refine pm fun K13 hK13=>?_
   have hie:i=(le u).length:=by omega
   subst hie
   refine rd0 h (ap rfl) rfl <| g0 (r_sliceA (n:=(le u).length) uu334 zz5 rfl rfl hL) rfl <| g1 0 rfl (r_strA (l:=(le u).reverse) nn335 nn5 nn9 rfl (hM.flat rfl hL) (by simp)) rfl <| g0 (ay rfl) rfl <| gn hK13 <| gT ?_; clear h; intro _ _ h
   exact (rt h) (h.retP (by unfold bO; rfl) trivial)
theorem d8 (m:Nat) (hm:(le m).length≤70368744177664) (w0:World):Calls zP 257 #[(.string (bs m))] w0 (RetR w0 341 (nc m) (True)):=by
 refine enter (N:=38) Tryz.func257 rfl rfl ?_; intro ac h
 refine pm fun K1 hK1=>?_
 refine rd0 h (ay rfl) rfl <| gn hK1 <| gr fun K2 hK2=>g0 (ap rfl) rfl <| g0 (oR uu9 rfl) rfl <| g0 (eH rfl rfl (r:=(((bs m).size+3:Nat):Int)) (by rw [fQ,wI]; omega)) rfl <| g0 (sx rfl rfl (r:=((dn m:Nat):Int)) og (by rw [Int.tdiv_eq_ediv_of_nonneg og,wI,fQ]; unfold dn; omega)) rfl ?_; clear h ac; intro ac wo h
 refine nw h (oN (n:=(dn m)) ((0:Nat)) rfl px rfl rfl rfl (by unfold dn; omega) (by unfold dn; omega)) rfl ?_; clear h ac wo; intro sv1 ac wo nnsv1 h
 refine rd0 h (ay rfl) rfl <| gn hK2 <| gq fun K3 hK3=>gr fun K4 hK4=>g0 (ap rfl) rfl <| g0 (oR uu9 rfl) rfl <| g0 (ap rfl) rfl <| gn hK4 <| gB ?_; clear h ac wo; intro ac wo h
 have hz0:List.replicate (dn m) 0=dgs (dn m) (m % 256 ^ 0):=by rw [show m % 256 ^ 0=0 by simp [Nat.mod_one]]; exact (nT _).symm
 rw [hz0] at h
 refine wp_loop_ghost (fun n_ a_ w_=>∃ (i:Nat),n_=(le m).length - i∧(i≤(le m).length)∧St w0 38 [(0,(.string (bs m))),(3,sv1),(12,(.int .i64 ((bs m).size:Int))),(13,(iN i))] [.row (α:=Nat) 341 sv1 (dgs (dn m) (m % 256 ^ i))] a_ w_) _ ⟨0,rfl,og,h.re [0]⟩ ?_
 clear h ac wo; rintro _ ac wo ⟨i,rfl,hi,h⟩
 refine gz h <| gr fun K5 hK5=>g0 (j7 rfl rfl) rfl <| gn hK5 <| gq fun K6 hK6=>?_; clear h ac wo; intro ac wo h
 refine kA h rfl (fun hc1=>?_) (fun hc1=>?_)
 ·
  have hd1:=of_decide_eq_true hc1
  refine gz h <| gS <| gx hK6 <| gq fun K7 hK7=>gB <| gr fun K8 hK8=>g0 (ap rfl) rfl <| g0 (ay rfl) rfl <| gn hK8 <| gr fun K9 hK9=>g0 (ap rfl) rfl <| g0 (oR uu9 rfl) rfl <| g0 (fh rfl rfl (r:=(((bs m).size - 1:Nat):Int)) (by rw [fQ] at hd1 ⊢; rw [wI]; omega)) rfl <| g0 (ap rfl) rfl <| g0 (fh rfl rfl (r:=(((le m).length - 1 - i:Nat):Int)) (by rw [fQ] at hd1 ⊢; rw [wI]; omega)) rfl <| g0 (ay rfl) rfl <| gn hK9 ?_; clear h ac wo; intro ac wo h
  have hlt:i < (le m).length:=by rw [fQ] at hd1; omega
  have hq:i / 4 < dn m:=by unfold dn; omega
  have hu:(dgs (dn m) (m % 256 ^ i))[i / 4]?=some (m % 256 ^ i / 4294967296 ^ (i / 4) % 4294967296):=d9 hq
  have hbg:=bs_get (n:=m) (i:=(le m).length - 1 - i) (by rw [fQ]; omega)
  rw [show (le m).length - 1 - ((le m).length - 1 - i)=i by omega] at hbg
  have hbs:=qT m i
  refine im mixed [dv sv1,dv (iN i),dv (iN (i / 4)),dv (sel sv1 ((i / 4)*1)),dw (.int .u32 (((m % 256 ^ i / 4294967296 ^ (i / 4) % 4294967296):Nat):Int)) [0],dv (.string (bs m)),dv (iN ((le m).length - 1 - i)),dv (.int .u8 (((bs m)[((le m).length - 1 - i)]'(by rw [fQ]; omega)).toNat:Int)),dv (.int .u32 (((m / 256 ^ i % 256):Nat):Int)),dv (iN i),dv (iN (i % 4)),dv (iN (8*(i % 4))),dv (.int .u32 (((m / 256 ^ i % 256*2 ^ (8*(i % 4))):Nat):Int)),dv (.int .u32 (((m % 256 ^ i / 4294967296 ^ (i / 4) % 4294967296)+(m / 256 ^ i % 256*2 ^ (8*(i % 4))):Nat):Int)),dv (sel sv1 ((i / 4)*1)),dw undef [0]] [⟨.row (α:=Nat) 341 sv1 (dgs (dn m) (m % 256 ^ i)),[(15,.con (.row (α:=Nat) 341 sv1 ((dgs (dn m) (m % 256 ^ i)).set (i / 4) ((m % 256 ^ i / 4294967296 ^ (i / 4) % 4294967296)+(m / 256 ^ i % 256*2 ^ (8*(i % 4)))))))]⟩] h rfl (by kernel_rfl) ⟨fun _ _=>bg (ap rfl),fun _ _=>bg (ap rfl),fun _ _=>bg (sx rfl rfl (r:=((i / 4:Nat):Int)) og (by rw [Int.tdiv_eq_ediv_of_nonneg og,wI]; omega)),fun _ _=>bg (iy (i:=(i / 4)) uu339 zz341 rfl rfl (h.dnn 0 rfl og) hq),fun _ _=>js [.row (α:=Nat) 341 sv1 (dgs (dn m) (m % 256 ^ i))] rfl rfl (iw (k:=0) aa341 zz341 hu rfl (Nat.add_zero _) rfl rfl (v:=(.int .u32 (((m % 256 ^ i / 4294967296 ^ (i / 4) % 4294967296):Nat):Int))) rfl),fun _ _=>bg (ap rfl),fun _ _=>bg (ap rfl),fun _ _=>bg (rg (i:=((le m).length - 1 - i)) uu9 rfl rfl (by rw [fQ]; omega)),fun _ _=>bg (be uu5 uu341 rfl (r:=(((m / 256 ^ i % 256):Nat):Int)) (by rw [hbg,IntKind.wrap_u32]; omega)),fun _ _=>bg (ap rfl),fun _ _=>bg (j6 rfl rfl (r:=((i % 4:Nat):Int)) og (by rw [Int.tmod_eq_emod_of_nonneg og]; omega)),fun _ _=>bg (mg rfl rfl (r:=((8*(i % 4):Nat):Int)) (by first | (rw [wI]; omega) | exact iX og og)),fun _ _=>bg (sw rfl rfl (r:=(((m / 256 ^ i % 256*2 ^ (8*(i % 4))):Nat):Int)) og (by simp [IntKind.bits] <;> omega) (wshl32 og hbs.1)),fun _ _=>bg (tT rfl rfl (r:=(((m % 256 ^ i / 4294967296 ^ (i / 4) % 4294967296)+(m / 256 ^ i % 256*2 ^ (8*(i % 4))):Nat):Int)) (nV _ _ (th m i).1 hbs.1 (Nat.mod_lt _ DC))),fun _ _=>bg (iy (i:=(i / 4)) uu339 zz341 rfl rfl (h.dnn 0 rfl og) hq),fun _ _=>m0 [.row (α:=Nat) 341 sv1 (dgs (dn m) (m % 256 ^ i))] [.row (α:=Nat) 341 sv1 ((dgs (dn m) (m % 256 ^ i)).set (i / 4) ((m % 256 ^ i / 4294967296 ^ (i / 4) % 4294967296)+(m / 256 ^ i % 256*2 ^ (8*(i % 4)))))] rfl rfl (ia (k:=0) (u':=((m % 256 ^ i / 4294967296 ^ (i / 4) % 4294967296)+(m / 256 ^ i % 256*2 ^ (8*(i % 4))))) zz341 hu rfl rfl rfl rfl rfl rfl rfl rfl),trivial⟩ ?_
  clear h ac wo; intro ξ ac wo hφ h
  replace h:St w0 38 [(0,(.string (bs m))),(3,sv1),(12,(.int .i64 ((bs m).size:Int))),(13,(iN i))] [.row (α:=Nat) 341 sv1 ((dgs (dn m) (m % 256 ^ i)).set (i / 4) ((m % 256 ^ i / 4294967296 ^ (i / 4) % 4294967296)+(m / 256 ^ i % 256*2 ^ (8*(i % 4)))))] ac wo:=h.sub ⟨rfl,rfl,rfl,rfl,trivial⟩
  clear hφ ξ
  refine gz h <| gN <| gx hK7 <| gR <| g0 (eH rfl rfl (r:=((i+1:Nat):Int)) (by rw [wI]; omega)) rfl <| g0 (ap rfl) rfl <| gx (fun _ _=>fX) ?_; clear h ac wo; intro ac wo h
  rw [dig_next] at h
  exact aD ⟨_,og,i+1,rfl,og,h.re [0]⟩
 ·
  have hd1:=of_decide_eq_false hc1
  refine gz h <| gE <| gx hK3 <| gr fun K10 hK10=>g0 (ap rfl) rfl <| g0 (ay rfl) rfl <| gn hK10 <| gT ?_; clear h ac wo; intro ac wo h
  have hd:nc m=(dgs (dn m) (m % 256 ^ i)):=(by rw [show i=(le m).length by rw [fQ] at hd1; omega,Nat.mod_eq_of_lt (rG m)]; rfl)
  exact (rt h) (by rw [hd]; exact h.retR 0 rfl trivial)
theorem ns (nx vx:Nat) (xv:Value) (hv:vx < 4294967296 ^ nx) (w0:World) (hxv:View w0 xv (dgs nx vx)):Calls zP 287 #[xv] w0 (RetP w0 (ti xv (dn vx)) (True)):=by
 refine enter (N:=21) Tryz.func287 rfl rfl ?_; intro ac h
 have hml:=dlen_le hxv; simp only [maxLen] at hml
 refine pm fun K1 hK1=>?_
 refine rd0 h (ay rfl) rfl <| gn hK1 <| gq fun K2 hK2=>gB ?_; clear h; intro _ _ h
 refine wp_loop_ghost (fun n_ a_ w_=>∃ (m:Nat),n_=1*m∧(m≤nx)∧(vx < 4294967296 ^ m)∧St w0 21 [(0,(ti xv m))] [] a_ w_) _ ⟨nx,rfl,(Nat.le_refl _),hv,(h.pick [] DC).sub ⟨(congrArg some (yz hxv.dsl).symm),trivial⟩⟩ ?_
 clear h; rintro _ _ _ ⟨m,rfl,hn,hvn,h⟩
 have hcv:=hxv.cutn hn
 refine gz h <| gq fun K3 hK3=>gr fun K4 hK4=>g0 (ap rfl) rfl <| g0 (il uu339 rfl hcv.dsl) rfl <| g0 (r_gtr rfl rfl) rfl <| g0 (ap rfl) rfl <| ge1 rfl rfl (fun hg=>(Rd.of_nil (ap rfl)).step) rfl <| ge1 rfl rfl (fun hg=>(Rd.of_nil (ap rfl)).step) rfl <| ge1 rfl rfl (fun hg=>(Rd.of_nil (il uu339 (db rfl hg) hcv.dsl)).step) rfl <| ge1 rfl rfl (fun hg=>(Rd.of_nil (fh (db rfl hg) rfl (r:=((m - 1:Nat):Int)) (by simp only [Bool.and_eq_true,decide_eq_true_eq,beq_iff_eq,Bool.true_and,Bool.not_eq_true',decide_eq_false_iff_not] at hg; rw [wI]; omega))).step) rfl <| ge1 rfl rfl (fun hg=>(Rd.of_nil (iy (i:=(m - 1)) uu339 zz341 (db rfl hg) (db rfl hg) (hcv.dnn (by simp only [Bool.and_eq_true,decide_eq_true_eq,beq_iff_eq,Bool.true_and,Bool.not_eq_true',decide_eq_false_iff_not] at hg; omega)) (by simp only [Bool.and_eq_true,decide_eq_true_eq,beq_iff_eq,Bool.true_and,Bool.not_eq_true',decide_eq_false_iff_not] at hg; omega))).step) rfl <| ge1 rfl rfl (fun hg=>(Rd.of_nil (lE (k:=0) aa341 zz341 hcv (d9 (n:=m) (by simp only [Bool.and_eq_true,decide_eq_true_eq,beq_iff_eq,Bool.true_and,Bool.not_eq_true',decide_eq_false_iff_not] at hg; omega)) (db rfl hg) (Nat.add_zero _) rfl rfl (v:=(.int .u32 (((vx / 4294967296 ^ (m - 1) % 4294967296):Nat):Int))) rfl)).step) rfl <| ge1 rfl rfl (fun hg=>(Rd.of_nil (rh (db rfl hg) rfl)).step) rfl <| g0 (qr rfl (fun e=>(db rfl e))) rfl <| gn hK4 ?_; clear h; intro _ _ h
 refine kA h rfl (fun hc1=>?_) (fun hc1=>?_)
 ·
  have hq:=hc1
  simp only [Bool.and_eq_true,Bool.and_eq_false_iff,decide_eq_true_eq,decide_eq_false_iff_not,beq_iff_eq,beq_eq_false_iff_ne,ne_eq] at hq
  refine gz h <| gS <| gx hK3 <| gB <| gR <| g0 (ap rfl) rfl <| g0 (ap rfl) rfl <| g0 (il uu339 rfl hcv.dsl) rfl <| g0 (fh rfl rfl (r:=((m - 1:Nat):Int)) (by rw [wI]; omega)) rfl <| g0 (r_cut (n:=(m - 1)) uu339 zz341 rfl rfl hcv (by rw [cZ]; omega)) rfl <| g0 (ay rfl) rfl <| gx (fun _ _=>fX) <| gN ?_; clear h; intro _ _ h
  exact aD ⟨_,og,m - 1,rfl,og,(wD hvn og og),(h.pick [] DC).sub ⟨(congrArg some (cutv_cut hxv.dsl)),trivial⟩⟩
 ·
  have hq:=hc1
  simp only [Bool.and_eq_true,Bool.and_eq_false_iff,decide_eq_true_eq,decide_eq_false_iff_not,beq_iff_eq,beq_eq_false_iff_ne,ne_eq] at hq
  have hdn:dn vx=m:=wE hvn og
  refine gz h <| gE <| gx hK2 <| gr fun K5 hK5=>g0 (ap rfl) rfl <| g0 (ay rfl) rfl <| gn hK5 <| gT ?_; clear h; intro _ _ h
  exact (rt h) (h.retP (by rw [hdn]; rfl) trivial)
theorem eQ (nx vx:Nat) (xv:Value) (hv:vx < 4294967296 ^ nx) (hb:nx≤35184372088832) (w0:World) (hxv:View w0 xv (dgs nx vx)):Calls zP 258 #[xv] w0 (RetP w0 (.string (bs vx)) (True)):=by
 refine enter (N:=46) Tryz.func258 rfl rfl ?_; intro ac h
 have hml:=(rN vx nx).2 hv
 refine pm fun K1 hK1=>?_
 refine rd0 h (ay rfl) rfl <| gn hK1 <| gr fun K2 hK2=>g0 (ap rfl) rfl ?_; clear h; intro _ _ h
 refine clq h Tryz.call287 (vs:=[xv]) rfl (fun w_ hB_ hS_=>ns nx vx xv hv w_ (hxv.below hB_)) rfl ?_; clear h; intro _ _ h
 refine rd0 h (ay rfl) rfl <| gn hK2 <| gq fun K3 hK3=>gr fun K4 hK4=>g0 (ap rfl) rfl <| g0 (il uu339 rfl (hxv.cutd hv).dsl) rfl <| g0 (rh rfl rfl) rfl <| gn hK4 ?_; clear h; intro _ _ h
 refine kA h rfl (fun hc1=>?_) (fun hc1=>?_)
 ·
  have hd1:=eq_of_beq hc1
  refine gz h <| gr fun K5 hK5=>g0 (ay rfl) rfl <| gn hK5 <| gT ?_; clear h; intro _ _ h
  have hd:vx=0:=(by have:=(rN vx 0).1 og; rw [Nat.pow_zero] at this; omega)
  exact (rt h) (h.retP (by rw [hd] <;> rfl) trivial)
 ·
  have hd1:=ne_of_beq_false hc1
  refine gz h <| gS <| gx hK3 <| gr fun K6 hK6=>g0 (ap rfl) rfl <| g0 (il uu339 rfl (hxv.cutd hv).dsl) rfl <| g0 (mg rfl rfl (r:=(((4*dn vx):Nat):Int)) (by first | (rw [wI]; omega) | exact iX og og)) rfl ?_; clear h; intro _ _ h
  refine nw h (oN (n:=(4*dn vx)) ((0:UInt8)) rfl slt335 rfl rfl rfl og og) rfl ?_; clear h; intro sv1 _ _ nnsv1 h
  refine rd0 h (ay rfl) rfl <| gn hK6 <| gq fun K7 hK7=>gr fun K8 hK8=>g0 (ap rfl) rfl <| g0 (il uu339 rfl (hxv.cutd hv).dsl) rfl <| g0 (ap rfl) rfl <| gn hK8 <| gB ?_; clear h; intro _ _ h
  rw [bz_zero _ vx] at h
  refine wp_loop_ghost (fun n_ a_ w_=>∃ (i:Nat),n_=dn vx - i∧(i≤dn vx)∧St w0 46 [(3,sv1),(16,(ti xv (dn vx))),(17,(iN (dn vx))),(18,(iN i))] [.row (α:=UInt8) 5 sv1 (bz (4*dn vx) (4*i) vx)] a_ w_) _ ⟨0,rfl,og,h.re [0]⟩ ?_
  clear h; rintro _ _ _ ⟨i,rfl,hi,h⟩
  refine gz h <| gr fun K9 hK9=>g0 (j7 rfl rfl) rfl <| gn hK9 <| gq fun K10 hK10=>?_; clear h; intro _ _ h
  refine kA h rfl (fun hc2=>?_) (fun hc2=>?_)
  ·
   have hd2:=of_decide_eq_true hc2
   refine gz h <| gS <| gx hK10 <| gq fun K11 hK11=>gB <| gr fun K12 hK12=>g0 (ap rfl) rfl <| g0 (iy (i:=i) uu339 zz341 rfl rfl ((hxv.cutd hv).dnn og) og) rfl <| g0 (lE (k:=0) aa341 zz341 (hxv.cutd hv) (d9 (n:=(dn vx)) og) rfl (Nat.add_zero _) rfl rfl (v:=(.int .u32 (((vx / 4294967296 ^ i % 4294967296):Nat):Int))) rfl) rfl <| g0 (ay rfl) rfl <| g0 (ay rfl) rfl <| gn hK12 <| gr fun K13 hK13=>g0 (ap rfl) rfl <| gn hK13 <| gB ?_; clear h; intro _ _ h
   refine wp_loop_ghost (fun n_ a_ w_=>∃ (k:Nat),n_=4 - k∧(k≤4)∧St w0 46 [(3,sv1),(16,(ti xv (dn vx))),(17,(iN (dn vx))),(18,(iN i)),(4,(iN i)),(5,(.int .u32 (((vx / 4294967296 ^ i % 4294967296):Nat):Int))),(23,(iN k))] [.row (α:=UInt8) 5 sv1 (bz (4*dn vx) (4*i+k) vx)] a_ w_) _ ⟨0,rfl,og,h.re [0]⟩ ?_
   clear h; rintro _ _ _ ⟨k,rfl,hk,h⟩
   refine gz h <| gr fun K14 hK14=>g0 (j7 rfl rfl) rfl <| gn hK14 <| gq fun K15 hK15=>?_; clear h; intro _ _ h
   refine kA h rfl (fun hc3=>?_) (fun hc3=>?_)
   ·
    have hd3:=of_decide_eq_true hc3
    refine gz h <| gS <| gx hK15 <| gq fun K16 hK16=>gB <| gr fun K17 hK17=>g0 (ap rfl) rfl <| g0 (ay rfl) rfl <| gn hK17 <| gR <| g0 (ap rfl) rfl <| g0 (ap rfl) rfl <| g0 (il uu335 rfl nnsv1.sl) rfl <| g0 (fh rfl rfl (r:=((4*dn vx - 1:Nat):Int)) (by rw [wI]; omega)) rfl <| g0 (ap rfl) rfl <| g0 (mg rfl rfl (r:=((4*i:Nat):Int)) (by first | (rw [wI]; omega) | exact iX og og)) rfl <| g0 (fh rfl rfl (r:=((4*dn vx - 1 - 4*i:Nat):Int)) (by rw [wI]; omega)) rfl <| g0 (ap rfl) rfl <| g0 (fh rfl rfl (r:=(((4*dn vx - 1 - (4*i+k)):Nat):Int)) (by rw [wI]; omega)) rfl <| g0 (ap rfl) rfl <| g0 (ap rfl) rfl <| g0 (mg rfl rfl (r:=((8*k:Nat):Int)) (by first | (rw [wI]; omega) | exact iX og og)) rfl <| g0 (ni rfl rfl (r:=(((vx / 4294967296 ^ i % 4294967296 / 256 ^ k):Nat):Int)) og (by simp [IntKind.bits] <;> omega) (by rw [show (((8*k:Nat):Int)).toNat=8*k by omega,xB]; simp)) rfl <| g0 (be uu341 uu5 rfl (r:=((UInt8.ofNat ((vx / 4294967296 ^ i % 4294967296 / 256 ^ k) % 256)).toNat:Int)) (by rw [IntKind.wrap_u8,UInt8.toNat_ofNat']; omega)) rfl <| g0 (iy (i:=(4*dn vx - 1 - (4*i+k))) uu335 zz5 rfl rfl nnsv1 og) rfl ?_; clear h; intro _ _ h
    refine up h 0 rfl (ia (k:=0) (u':=(UInt8.ofNat ((vx / 4294967296 ^ i % 4294967296 / 256 ^ k) % 256))) zz5 (tu og) rfl rfl rfl rfl rfl rfl rfl rfl) ?_; clear h; intro _ _ h
    replace h:=h.rowEq 0 rfl (bz_next og (by rw [wm _ _ _ og]))
    refine gz h <| gx (fun _ _=>fX) <| gN <| gx hK16 <| gR <| g0 (eH rfl rfl (r:=((k+1:Nat):Int)) (by rw [wI]; omega)) rfl <| g0 (ap rfl) rfl <| gx (fun _ _=>fX) ?_; clear h; intro _ _ h
    exact aD ⟨_,og,k+1,rfl,og,h.re [0]⟩
   ·
    have hd3:=of_decide_eq_false hc3
    refine kd ?_
    refine hK11 _ _ ?_
    refine c_r ?_
    rw [show 4*i+k=4*(i+1) by omega] at h
    refine rd0 h (eH rfl rfl (r:=((i+1:Nat):Int)) (by rw [wI]; omega)) rfl <| g0 (ap rfl) rfl <| gx (fun _ _=>fX) ?_; clear h; intro _ _ h
    exact aD ⟨_,og,i+1,rfl,og,h.re [0]⟩
  ·
   have hd2:=of_decide_eq_false hc2
   refine kd ?_
   refine hK7 _ _ ?_
   refine pm fun K18 hK18=>?_
   have hie:i=dn vx:=by omega
   subst hie
   have h256:vx < 256 ^ (4*dn vx):=dn_pow.1 (jt vx)
   refine rd0 h (ap rfl) rfl <| g1 0 rfl (r_str nn335 nn5 nn9 rfl) rfl <| gl Tryz.call288 rfl (tl_bs h256) rfl <| g0 (ay rfl) rfl <| gn hK18 <| gT ?_; clear h; intro _ _ h
   have hd:vx=vx:=rfl
   exact (rt h) (h.retP (by rw [hd] <;> rfl) trivial)
def hQ (x:Int):Bool :=
 (x != x)
theorem lV (x:Int) (w0:World):Calls zP 280 #[(.int .i64 x)] w0 (RetP w0 (.bool (hQ x)) (True)):=by
 refine enter (N:=6) Tryz.func280 rfl rfl ?_; intro ac h
 exact (rx h) fun _ _ h=>(h.retP (by unfold hQ; rfl) trivial)
def c8 (x:Int) (y:Int):Int :=
 bif (hQ x) then
  bif (hQ y) then
   0
  else
   (-1)
 else
  bif (hQ y) then
   1
  else
   bif (decide (x < y)) then
    (-1)
   else
    bif (decide (x>y)) then
     1
    else
     0
theorem lz (x:Int) (y:Int) (w0:World):Calls zP 228 #[(.int .i64 x),(.int .i64 y)] w0 (RetP w0 (.int .i64 (c8 x y)) ((-1≤(c8 x y)∧(c8 x y)≤1))):=by
 refine enter (N:=20) Tryz.func228 rfl rfl ?_; intro ac h
 refine gz h <| (xk (lV x)) <| (xk (lV y)) <| (ai) ?_ ?_ <;> clear h <;> intro _ _ h hc1
 ·
  refine gz h <| (ai) ?_ ?_ <;> clear h <;> intro _ _ h hc2
  ·
   have hd:c8 x y=0:=pt
   exact (rx h) fun _ _ h=>(h.retP (by rw [hd] <;> rfl) (by rw [hd]; exact by first | omega | exact fZ og og))
  ·
   have hd:c8 x y=(-1):=pt
   exact (rx h) fun _ _ h=>(h.retP (by rw [hd] <;> rfl) (by rw [hd]; exact by first | omega | exact fZ og og))
 ·
  refine gz h <| (ai) ?_ ?_ <;> clear h <;> intro _ _ h hc3
  ·
   have hd:c8 x y=1:=pt
   exact (rx h) fun _ _ h=>(h.retP (by rw [hd] <;> rfl) (by rw [hd]; exact by first | omega | exact fZ og og))
  ·
   refine gz h <| (ai) ?_ ?_ <;> clear h <;> intro _ _ h hc4
   ·
    have hd4:=of_decide_eq_true hc4
    have hd:c8 x y=(-1):=pt
    exact (rx h) fun _ _ h=>(h.retP (by rw [hd] <;> rfl) (by rw [hd]; exact by first | omega | exact fZ og og))
   ·
    have hd4:=of_decide_eq_false hc4
    refine gz h <| (ai) ?_ ?_ <;> clear h <;> intro _ _ h hc5
    ·
     have hd5:=of_decide_eq_true hc5
     have hd:c8 x y=1:=pt
     exact (rx h) fun _ _ h=>(h.retP (by rw [hd] <;> rfl) (by rw [hd]; exact by first | omega | exact fZ og og))
    ·
     have hd5:=of_decide_eq_false hc5
     have hd:c8 x y=0:=pt
     exact (rx h) fun _ _ h=>(h.retP (by rw [hd] <;> rfl) (by rw [hd]; exact by first | omega | exact fZ og og))
theorem yL (x y:Int):c8 x y=if x < y then -1 else if x>y then 1 else 0:=by
 unfold c8 hQ
 by_cases h1:x < y
 ·simp [h1]
 ·by_cases h2:y < x
  ·simp [h1,h2]
  ·simp [h1,h2]
theorem nO (a b:Nat):-1≤bq a b∧bq a b≤1:=by
 unfold bq
 cases Nat.blt a b <;> cases Nat.beq a b <;> simp
theorem yI (a b:Nat):or2 (c8 ((bs a).size:Int) ((bs b).size:Int)) (Lib.compareBytes (bs a).data.toList (bs b).data.toList)=bq a b:=by
 rw [yL,← yH]
 congr 1
 simp
theorem rT (u v:Int) (xv:Value) (w0:World) (hxv:View w0 xv [u,v]):Calls zP 227 #[xv] w0 (RetP w0 (.int .i64 (or2 u v)) (True)):=by
 refine enter (N:=18) Tryz.func227 rfl rfl ?_; intro ac h
 refine pm fun K1 hK1=>?_
 refine rd0 h (ay rfl) rfl <| gn hK1 <| gr fun K2 hK2=>g0 (ay rfl) rfl <| gn hK2 <| gq fun K3 hK3=>gr fun K4 hK4=>g0 (ap rfl) rfl <| g0 (il uu358 rfl hxv.sl) rfl <| g0 (ap rfl) rfl <| gn hK4 <| gB ?_; clear h; intro _ _ h
 refine wp_loop_ghost (fun n_ a_ w_=>∃ (i:Nat),n_=2 - i∧(i≤2)∧(0 < i→u=0)∧(1 < i→v=0)∧St w0 18 [(3,(.int .i64 0)),(6,xv),(7,(iN 2)),(8,(iN i))] [] a_ w_) _ ⟨0,rfl,og,(fun h=>absurd h DC),(fun h=>absurd h DC),h.re []⟩ ?_
 clear h; rintro _ _ _ ⟨i,rfl,hi,hu,hv,h⟩
 refine gz h <| gr fun K5 hK5=>g0 (j7 rfl rfl) rfl <| gn hK5 <| gq fun K6 hK6=>?_; clear h; intro _ _ h
 refine kA h rfl (fun hc1=>?_) (fun hc1=>?_)
 ·
  have hd1:=of_decide_eq_true hc1
  refine gz h <| gS <| gx hK6 <| gq fun K7 hK7=>gB <| gr fun K8 hK8=>g0 (iy (i:=i) uu358 zz3 rfl rfl (show NN xv 2 from hxv.nn (i:=0) (by simp)) og) rfl <| g0 (lE (k:=0) Tryz.isAgg3 zz3 hxv (two_get og) rfl (Nat.add_zero _) rfl rfl (v:=(.int .i64 (if i=0 then u else v))) rfl) rfl <| g0 (ay rfl) rfl <| gn hK8 <| gr fun K9 hK9=>g0 (ap rfl) rfl <| g0 (ap rfl) rfl <| g0 (r_neq rfl rfl) rfl <| gn hK9 ?_; clear h; intro _ _ h
  refine kA h rfl (fun hc2=>?_) (fun hc2=>?_)
  ·
   have hd2:=hc2; simp only [bne_iff_ne,ne_eq] at hd2
   refine gz h <| gr fun K10 hK10=>g0 (ap rfl) rfl <| g0 (ay rfl) rfl <| gn hK10 <| gT ?_; clear h; intro _ _ h
   have hd:or2 u v=(if i=0 then u else v):=(by unfold or2; split at hd2 <;> split <;> simp_all)
   exact (rt h) (h.retP (by rw [hd] <;> rfl) trivial)
  ·
   have hq:=hc2; simp only [bne_eq_false_iff_eq] at hq
   refine gz h <| gS <| gN <| gx hK7 <| gR <| g0 (eH rfl rfl (r:=((i+1:Nat):Int)) (by rw [wI]; omega)) rfl <| g0 (ap rfl) rfl <| gx (fun _ _=>fX) ?_; clear h; intro _ _ h
   exact aD ⟨_,og,i+1,rfl,og,(by intro _; split at hq <;> omega),(by intro _; split at hq <;> omega),h.re []⟩
 ·
  have hd1:=of_decide_eq_false hc1
  refine gz h <| gE <| gx hK3 <| gr fun K11 hK11=>g0 (ap rfl) rfl <| g0 (ay rfl) rfl <| gn hK11 <| gT ?_; clear h; intro _ _ h
  have hd:or2 u v=0:=(by rw [hu og,hv og]; rfl)
  exact (rt h) (h.retP (by rw [hd] <;> rfl) trivial)
theorem ed (a:Nat) (b:Nat) (w0:World):Calls zP 194 #[(.string (bs a)),(.string (bs b))] w0 (RetP w0 (.int .i64 (bq a b)) ((-1≤(bq a b)∧(bq a b)≤1))):=by
 refine enter (N:=15) Tryz.func194 rfl rfl ?_; intro ac h
 have p2:=au ((lz ((bs a).size:Int) ((bs b).size:Int)) w0)
 refine gz h <| (xo (hs:=by exact oR uu9 rfl)) <| (xo (hs:=by exact oR uu9 rfl)) <| (xk (lz ((bs a).size:Int) ((bs b).size:Int))) <| (xk (nz a b)) <| ?_; clear h; intro _ _ h
 refine nw h (s_slice2 (u:=(c8 ((bs a).size:Int) ((bs b).size:Int))) (v:=(Lib.compareBytes (bs a).data.toList (bs b).data.toList)) slt358 rfl rfl) rfl ?_; clear h; intro sv3 _ _ nnsv3 h
 refine clq h Tryz.call227 (vs:=[sv3]) rfl (fun w_ hB_ hS_=>rT (c8 ((bs a).size:Int) ((bs b).size:Int)) (Lib.compareBytes (bs a).data.toList (bs b).data.toList) sv3 w_ (row_view hS_ 0 rfl)) rfl ?_; clear h; intro _ _ h
 have hd:bq a b=(or2 (c8 ((bs a).size:Int) ((bs b).size:Int)) (Lib.compareBytes (bs a).data.toList (bs b).data.toList)):=(yI a b).symm
 exact (rx h) fun _ _ h=>(h.retP (by rw [hd] <;> rfl) (by rw [hd]; exact (by rw [yI]; exact nO a b)))
theorem jC (nx vx:Nat) (xv:Value) (s:Nat) (hv:vx < 4294967296 ^ nx) (hs:s≤31) (hb:nx≤17592186044417) (w0:World) (hxv:View w0 xv (dgs nx vx)):Calls zP 283 #[xv,(iN s)] w0 (RetR w0 341 (dgs (nx+1) (vx*2 ^ s)) (True)):=by
 refine enter (N:=41) Tryz.func283 rfl rfl ?_; intro ac h
 have hs32:s≤32:=by omega
 refine pm fun K1 hK1=>?_
 refine rd0 h (ay rfl) rfl <| gn hK1 <| gr fun K2 hK2=>g0 (ap rfl) rfl <| g0 (il uu339 rfl hxv.dsl) rfl <| g0 (eH rfl rfl (r:=((nx+1:Nat):Int)) (by rw [wI]; omega)) rfl ?_; clear h; intro _ _ h
 refine nw h (oN (n:=(nx+1)) ((0:Nat)) rfl px rfl rfl rfl og og) rfl ?_; clear h; intro sv1 _ _ nnsv1 h
 refine rd0 h (ay rfl) rfl <| gn hK2 <| gq fun K3 hK3=>gr fun K4 hK4=>g0 (ap rfl) rfl <| g0 (il uu339 rfl hxv.dsl) rfl <| g0 (ap rfl) rfl <| gn hK4 <| gB ?_; clear h; intro _ _ h
 replace h:=h.rowEq 0 rfl (by rw [show vx % 4294967296 ^ 0*2 ^ s=0 by simp [Nat.mod_one]]; exact (nT _).symm:(List.replicate (nx+1) (0:Nat))=(dgs (nx+1) (vx % 4294967296 ^ 0*2 ^ s)))
 refine wp_loop_ghost (fun n_ a_ w_=>∃ (i:Nat),n_=nx - i∧(i≤nx)∧St w0 41 [(1,(iN s)),(5,sv1),(13,xv),(14,(iN nx)),(15,(iN i))] [.row (α:=Nat) 341 sv1 (dgs (nx+1) (vx % 4294967296 ^ i*2 ^ s))] a_ w_) _ ⟨0,rfl,og,h.re [0]⟩ ?_
 clear h; rintro _ _ _ ⟨i,rfl,hi,h⟩
 refine gz h <| gr fun K5 hK5=>g0 (j7 rfl rfl) rfl <| gn hK5 <| gq fun K6 hK6=>?_; clear h; intro _ _ h
 refine kA h rfl (fun hc1=>?_) (fun hc1=>?_)
 ·
  have hd1:=of_decide_eq_true hc1
  refine gz h <| gS <| gx hK6 <| gq fun K7 hK7=>gB <| gr fun K8 hK8=>g0 (ap rfl) rfl <| g0 (iy (i:=i) uu339 zz341 rfl rfl (hxv.dnn og) og) rfl <| g0 (lE (k:=0) aa341 zz341 hxv (d9 (n:=nx) og) rfl (Nat.add_zero _) rfl rfl (v:=(.int .u32 (((vx / 4294967296 ^ i % 4294967296):Nat):Int))) rfl) rfl <| g0 (ay rfl) rfl <| g0 (ay rfl) rfl <| gn hK8 <| gr fun K9 hK9=>?_; clear h; intro _ _ h
  have hw:((vx / 4294967296 ^ i % 4294967296)*2 ^ s) < 18446744073709551616:=sh_word hs32 (Nat.mod_lt _ DC)
  refine rd0 h (ap rfl) rfl <| g0 (be uu341 uu254 rfl (r:=(((vx / 4294967296 ^ i % 4294967296):Nat):Int)) (by rw [IntKind.wrap_u64]; omega)) rfl <| g0 (ap rfl) rfl <| g0 (sw rfl rfl (r:=((((vx / 4294967296 ^ i % 4294967296)*2 ^ s):Nat):Int)) og (by simp [IntKind.bits] <;> omega) (qC rfl hw)) rfl <| g0 (ay rfl) rfl <| gn hK9 <| gr fun K10 hK10=>g0 (ap rfl) rfl <| g0 (ap rfl) rfl ?_; clear h; intro _ _ h
  refine rd0 h (iy (i:=i) uu339 zz341 rfl rfl (h.dnn 0 rfl og) og) rfl <| g1 0 rfl (iw (k:=0) aa341 zz341 (sh_get hs32 og) rfl (Nat.add_zero _) rfl rfl (v:=(.int .u32 ((shc vx s i):Int))) rfl) rfl <| g0 (ap rfl) rfl <| g0 (be uu254 uu341 rfl (r:=((((vx / 4294967296 ^ i % 4294967296)*2 ^ s) % 4294967296:Nat):Int)) (by rw [IntKind.wrap_u32']; omega)) rfl <| g0 (tT rfl rfl (r:=((shc vx s i+((vx / 4294967296 ^ i % 4294967296)*2 ^ s) % 4294967296:Nat):Int)) (sh_or hs32)) rfl ?_; clear h; intro _ _ h
  refine rd0 h (iy (i:=i) uu339 zz341 rfl rfl (h.dnn 0 rfl og) og) rfl ?_; clear h; intro _ _ h
  refine up h 0 rfl (ia (k:=0) (u':=(shc vx s i+((vx / 4294967296 ^ i % 4294967296)*2 ^ s) % 4294967296)) zz341 (sh_get hs32 og) rfl rfl rfl rfl rfl rfl rfl rfl) ?_; clear h; intro _ _ h
  replace h:=h.rowEq 0 rfl (sh_set1 hs32)
  refine gz h <| gn hK10 <| gR <| g0 (ap rfl) rfl <| g0 (ap rfl) rfl <| g0 (eH rfl rfl (r:=((i+1:Nat):Int)) (by rw [wI]; omega)) rfl <| g0 (ap rfl) rfl <| g0 (ni rfl rfl (r:=((((vx / 4294967296 ^ i % 4294967296)*2 ^ s) / 4294967296:Nat):Int)) DC DC (by rw [show (2:Int) ^ ((32:Int)).toNat=4294967296 from rfl]; omega)) rfl <| g0 (be uu254 uu341 rfl (r:=((((vx / 4294967296 ^ i % 4294967296)*2 ^ s) / 4294967296:Nat):Int)) (by rw [IntKind.wrap_u32']; omega)) rfl ?_; clear h; intro _ _ h
  refine rd0 h (iy (i:=(i+1)) uu339 zz341 rfl rfl (h.dnn 0 rfl og) og) rfl ?_; clear h; intro _ _ h
  refine up h 0 rfl (ia (k:=0) (u':=(((vx / 4294967296 ^ i % 4294967296)*2 ^ s) / 4294967296)) zz341 (d9 (n:=nx+1) (q:=i+1) og) rfl rfl rfl rfl rfl rfl rfl rfl) ?_; clear h; intro _ _ h
  replace h:=h.rowEq 0 rfl (sh_set2 hs32)
  refine gz h <| gx (fun _ _=>fX) <| gN <| gx hK7 <| gR <| g0 (eH rfl rfl (r:=((i+1:Nat):Int)) (by rw [wI]; omega)) rfl <| g0 (ap rfl) rfl <| gx (fun _ _=>fX) ?_; clear h; intro _ _ h
  exact aD ⟨_,og,i+1,rfl,og,h.re [0]⟩
 ·
  have hd1:=of_decide_eq_false hc1
  refine gz h <| gE <| gx hK3 <| gr fun K11 hK11=>g0 (ap rfl) rfl <| g0 (ay rfl) rfl <| gn hK11 <| gT ?_; clear h; intro _ _ h
  have hd:dgs (nx+1) (vx*2 ^ s)=(dgs (nx+1) (vx % 4294967296 ^ i*2 ^ s)):=(by rw [show i=nx by omega,Nat.mod_eq_of_lt hv])
  exact (rt h) (by rw [hd]; exact h.retR 0 rfl trivial)
theorem m6 (nx vx:Nat) (xv:Value) (d:Nat) (hv:vx < 4294967296 ^ nx) (hd0:0 < d) (hdl:d < 4294967296) (hb:nx≤35184372088832) (w0 w:World) (B:Asn) (hbel:Below w0.heap.size w0 w) (hsep:∃ U,Sep w0.heap.size w [.row (α:=Nat) 341 xv (dgs nx vx),B] U):Calls zP 281 #[xv,(.int .u32 (d:Int))] w (RetX w0 (.int .u32 ((vx % d:Nat):Int)) [.row (α:=Nat) 341 xv (dgs nx (vx / d)),B]):=by
 refine lU (N:=36) Tryz.func281 rfl rfl hbel hsep ?_; intro ac h
 refine pm fun K1 hK1=>?_
 refine rd0 h (ay rfl) rfl <| gn hK1 <| gr fun K2 hK2=>g0 (ay rfl) rfl <| gn hK2 <| gq fun K3 hK3=>gr fun K4 hK4=>g0 (ap rfl) rfl ?_; clear h ac; intro ac wo h
 refine rd0 h (il uu339 rfl (h.dsl 0 rfl)) rfl <| g0 (fh rfl rfl (r:=((nx:Int) - 1)) (by rw [wI]; omega)) rfl <| g0 (ay rfl) rfl <| gn hK4 <| gB ?_; clear h ac wo; intro ac wo h
 replace h:=h.rowEq 0 rfl (by rw [sH (Nat.lt_of_le_of_lt (Nat.div_le_self _ _) hv) hv]:(dgs nx vx)=(dgs nx (mx (vx / d) nx vx)))
 refine wp_loop_ghost (fun n_ a_ w_=>∃ (i:Nat),n_=1*i∧(i≤nx)∧St w0 36 [(0,xv),(1,(.int .u32 (d:Int))),(6,(.int .i64 ((i:Int) - 1))),(5,(.int .u64 (((vx / 4294967296 ^ i % d):Nat):Int)))] [.row (α:=Nat) 341 xv (dgs nx (mx (vx / d) i vx)),B] a_ w_) _ ⟨nx,rfl,(Nat.le_refl _),(h.pick [0,1] DC).sub ⟨rfl,rfl,rfl,(by rw [Nat.div_eq_of_lt hv]; simp; rfl),trivial⟩⟩ ?_
 clear h ac wo; rintro _ ac wo ⟨i,rfl,hi,h⟩
 refine gz h <| gq fun K5 hK5=>gr fun K6 hK6=>g0 (ap rfl) rfl <| g0 (vZ rfl rfl) rfl <| gn hK6 ?_; clear h ac wo; intro ac wo h
 refine kA h rfl (fun hc1=>?_) (fun hc1=>?_)
 ·
  have hd1:=of_decide_eq_true hc1
  obtain ⟨q,rfl⟩:∃ q,i=q+1:=⟨i - 1,by omega⟩
  rw [show (((q+1:Nat):Int) - 1)=(q:Int) by omega] at h
  have hst:=vT (v:=vx) (i:=q) hd0
  have hrl:vx / 4294967296 ^ (q+1) % d < d:=Nat.mod_lt _ hd0
  refine gz h <| gS <| gx hK5 <| gq fun K7 hK7=>gB <| gr fun K8 hK8=>g0 (ap rfl) rfl <| g0 (sw rfl rfl (r:=(((vx / 4294967296 ^ (q+1) % d)*2 ^ 32:Nat):Int)) DC DC (qC rfl og)) rfl <| g0 (ap rfl) rfl <| g0 (ap rfl) rfl ?_; clear h ac wo; intro ac wo h
  refine rd0 h (iy (i:=q) uu339 zz341 rfl rfl (h.dnn 0 rfl og) og) rfl <| g1 0 rfl (iw (k:=0) aa341 zz341 (qN og) rfl (Nat.add_zero _) rfl rfl (v:=(.int .u32 (((vx / 4294967296 ^ q % 4294967296):Nat):Int))) rfl) rfl <| g0 (be uu341 uu254 rfl (r:=(((vx / 4294967296 ^ q % 4294967296):Nat):Int)) (by rw [IntKind.wrap_u64]; omega)) rfl <| g0 (tT rfl rfl (r:=((((vx / 4294967296 ^ (q+1) % d)*4294967296+(vx / 4294967296 ^ q % 4294967296)):Nat):Int)) (kC (k:=32) _ _ og (Nat.mod_lt _ DC) og)) rfl <| g0 (ay rfl) rfl <| gn hK8 ?_; clear h ac wo; intro ac wo h
  refine im mixed [dv _,dv _,dv _,dv _,dv _,dv _,dv _,dv _,dv _,dv _,dv _,dv _,dw _ [0],dv _] [⟨.row (α:=Nat) 341 xv (dgs nx (mx (vx / d) (q+1) vx)),[(12,.con (.row (α:=Nat) 341 xv ((dgs nx (mx (vx / d) (q+1) vx)).set q (vx / d / 4294967296 ^ q % 4294967296))))]⟩,ge _] h rfl (by kernel_rfl) ⟨fun _ _=>om rfl,fun _ _=>om rfl,fun _ _=>om rfl,fun _ _=>om rfl,fun _ _=>bg (be uu341 uu254 rfl (r:=(d:Int)) (by rw [IntKind.wrap_u64]; omega)),fun _ _=>bg (sx rfl rfl (r:=((vx / d / 4294967296 ^ q % 4294967296:Nat):Int)) og (by rw [Int.tdiv_eq_ediv_of_nonneg og,show ((((vx / 4294967296 ^ (q+1) % d)*4294967296+(vx / 4294967296 ^ q % 4294967296)):Nat):Int) / (d:Int)=((vx / d / 4294967296 ^ q % 4294967296:Nat):Int) from by rw [← hst.1]; rfl,IntKind.wrap_u64]; omega)),fun _ _=>bg (be uu254 uu341 rfl (r:=((vx / d / 4294967296 ^ q % 4294967296:Nat):Int)) (by rw [IntKind.wrap_u32']; omega)),fun _ _=>om rfl,fun _ _=>om rfl,fun _ _=>bg (be uu341 uu254 rfl (r:=(d:Int)) (by rw [IntKind.wrap_u64]; omega)),fun _ _=>bg (j6 rfl rfl (r:=((vx / 4294967296 ^ q % d:Nat):Int)) og (by rw [Int.tmod_eq_emod_of_nonneg og,← hst.2]; rfl)),fun _ _=>bg (iy (i:=q) uu339 zz341 rfl rfl (h.dnn 0 rfl og) og),fun _ _=>m0 _ [.row (α:=Nat) 341 xv ((dgs nx (mx (vx / d) (q+1) vx)).set q (vx / d / 4294967296 ^ q % 4294967296))] rfl rfl (ia (k:=0) (u':=(vx / d / 4294967296 ^ q % 4294967296)) zz341 (qN og) rfl rfl rfl rfl rfl rfl rfl rfl),fun _ _=>bg (ay rfl),trivial⟩ ?_
  clear h ac wo; intro ξ ac wo hφ h
  replace h:St w0 36 [(0,xv),(1,(.int .u32 (d:Int))),(6,(iN q)),(5,(.int .u64 ((vx / 4294967296 ^ q % d:Nat):Int)))] [.row (α:=Nat) 341 xv ((dgs nx (mx (vx / d) (q+1) vx)).set q (vx / d / 4294967296 ^ q % 4294967296)),B] ac wo:=h.sub ⟨rfl,rfl,rfl,rfl,trivial⟩
  clear hφ ξ
  refine gz h <| gN <| gx hK7 <| gR <| g0 (ap rfl) rfl <| g0 (fh rfl rfl (r:=((q:Int) - 1)) (by rw [wI]; omega)) rfl <| g0 (ay rfl) rfl <| gx (fun _ _=>fX) ?_; clear h ac wo; intro ac wo h
  replace h:=h.rowEq 0 rfl (t6:((dgs nx (mx (vx / d) (q+1) vx)).set q (vx / d / 4294967296 ^ q % 4294967296))=(dgs nx (mx (vx / d) q vx)))
  exact aD ⟨_,og,q,rfl,og,h.re [0,1]⟩
 ·
  have hd1:=of_decide_eq_false hc1
  have hi0:i=0:=by omega
  subst hi0
  replace h:=h.rowEq 0 rfl (by rw [ry]:(dgs nx (mx (vx / d) 0 vx))=(dgs nx (vx / d)))
  have hmd:vx % d < d:=Nat.mod_lt _ hd0
  refine gz h <| gE <| gx hK3 <| gr fun K9 hK9=>g0 (ap rfl) rfl <| g0 (be uu254 uu341 rfl (r:=((vx % d:Nat):Int)) (by rw [IntKind.wrap_u32',Nat.pow_zero,Nat.div_one]; omega)) rfl <| g0 (ay rfl) rfl <| gn hK9 <| gT ?_; clear h ac wo; intro ac wo h
  exact (rt h) (h.retX rfl)
def da (a b:Nat):Nat:=a+b
theorem iW (a:Nat) (b:Nat) (k:Nat) (hk:(k+1)≤40) (za:SzB (k+1) a) (zb:SzB (k+1) b) (w0:World):Calls zP 193 #[(.string (bs a)),(.string (bs b))] w0 (RetP w0 (.string (bs (da a b))) (SzB k (da a b))):=by
 refine enter (N:=84) Tryz.func193 rfl rfl ?_; intro ac h
 refine pm fun K1 hK1=>?_
 refine rd0 h (ay rfl) rfl <| gn hK1 ?_; clear h; intro _ _ h
 refine wt (fun a_ w_=>St w0 84 [(0,(.string (bs a))),(1,(.string (bs b)))] [] a_ w_) (fun K2 hK2=>?_) ?_
 ·
  refine gz h <| gr fun K3 hK3=>g0 (ap rfl) rfl <| g0 (ap rfl) rfl <| gl cc231 rfl (ib a b) rfl <| g0 (ap rfl) rfl <| g0 (cn rfl rfl) rfl <| g0 (cn rfl rfl) rfl <| g0 (cn rfl rfl) rfl <| g0 (ay rfl) rfl <| g0 (ay rfl) rfl <| g0 (ay rfl) rfl <| gn hK3 <| gr fun K4 hK4=>g0 (ap rfl) rfl <| gn hK4 ?_; clear h; intro _ _ h
  refine kA h rfl (fun hc1=>?_) (fun hc1=>?_)
  ·
   obtain ⟨ha6,hb6,hw⟩:=l8 hc1
   simp only [hw] at h
   refine gz h <| gr fun K5 hK5=>g0 (ap rfl) rfl <| g0 (ap rfl) rfl <| g0 (r_ext (vs:=[(.int .u64 (a:Int)),(.int .u64 (b:Int)),(.int .u64 0)]) rfl (add64 a b)) rfl <| g0 (ap rfl) rfl <| g0 (cn rfl rfl) rfl <| g0 (cn rfl rfl) rfl <| g0 (ay rfl) rfl <| g0 (ay rfl) rfl <| gn hK5 <| gr fun K6 hK6=>g0 (ap rfl) rfl <| g0 (rh rfl rfl) rfl <| gn hK6 ?_; clear h; intro _ _ h
   refine kA h rfl (fun hc2=>?_) (fun hc2=>?_)
   ·
    have hd2:=eq_of_beq hc2
    refine gz h <| gr fun K7 hK7=>g0 (ap rfl) rfl <| gl cc191 rfl (dy ((a+b) % 18446744073709551616) og) rfl <| g0 (ay rfl) rfl <| gn hK7 <| gT ?_; clear h; intro _ _ h
    have hd:da a b=(bO ((a+b) % 18446744073709551616)):=(by show a+b=(a+b) % 18446744073709551616; omega)
    exact (rt h) (h.retP (by rw [hd] <;> rfl) (y5 za zb))
   ·
    have hd2:=ne_of_beq_false hc2
    refine mE ?_
    exact hK2 _ _ ((h.pick [] DC).sub ⟨rfl,rfl,trivial⟩)
  ·
   refine mE ?_
   exact hK2 _ _ ((h.pick [] DC).sub ⟨rfl,rfl,trivial⟩)
 ·
  clear h; intro _ _ h
  refine gz h <| gr fun K8 hK8=>g0 (ap rfl) rfl ?_; clear h; intro _ _ h
  refine clr (xs:=(dgs (dn a) a)) h cc257 (vs:=[(.string (bs a))]) rfl (kk (d8 a (kX za))) rfl ?_; clear h; intro sv1 _ _ hpsv1 h
  refine rd0 h (ap rfl) rfl ?_; clear h; intro _ _ h
  refine clr (xs:=(dgs (dn b) b)) h cc257 (vs:=[(.string (bs b))]) rfl (kk (d8 b (kX zb))) rfl ?_; clear h; intro sv2 _ _ hpsv2 h
  refine rd0 h (ay rfl) rfl <| g0 (ay rfl) rfl <| gn hK8 ?_; clear h; intro _ _ h
  refine wt (fun a_ w_=>∃ (p:Nat) (q:Nat) (sp:Value) (sq:Value),(p+q=a+b)∧(dn q≤dn p)∧(dn p≤17592186044416)∧(dn q≤17592186044416)∧St w0 84 [(10,sp),(11,sq)] [.row (α:=Nat) 341 sp (dgs (dn p) p),.row (α:=Nat) 341 sq (dgs (dn q) q)] a_ w_) (fun K9 hK9=>?_) ?_
  ·
   refine gz h <| gr fun K10 hK10=>g0 (ap rfl) rfl ?_; clear h; intro _ _ h
   refine rd0 h (il uu339 rfl (h.dsl 1 rfl)) rfl <| g0 (ap rfl) rfl ?_; clear h; intro _ _ h
   refine rd0 h (il uu339 rfl (h.dsl 0 rfl)) rfl <| g0 (j7 rfl rfl) rfl <| gn hK10 ?_; clear h; intro _ _ h
   refine kA h rfl (fun hc3=>?_) (fun hc3=>?_)
   ·
    have hd3:=of_decide_eq_true hc3
    refine gz h <| gR <| g0 (ap rfl) rfl <| g0 (ap rfl) rfl <| g0 (ay rfl) rfl <| g0 (ay rfl) rfl <| gx (fun _ _=>fX) ?_; clear h; intro _ _ h
    exact hK9 _ _ ⟨b,a,sv2,sv1,og,og,(iC zb),(iC za),h.re [0,1]⟩
   ·
    have hd3:=of_decide_eq_false hc3
    refine mE ?_
    exact hK9 _ _ ⟨a,b,sv1,sv2,og,og,(iC za),(iC zb),h.re [1,0]⟩
  ·
   clear h; intro _ _ h
   obtain ⟨p,q,sp,sq,hpq,hle,hpl,hql,h⟩:=h
   refine gz h <| gr fun K11 hK11=>g0 (ap rfl) rfl ?_; clear h; intro _ _ h
   refine rd0 h (il uu339 rfl (h.dsl 0 rfl)) rfl <| g0 (eH rfl rfl (r:=(((dn p)+1:Nat):Int)) (by rw [wI]; omega)) rfl ?_; clear h; intro _ _ h
   refine nw h (oN (n:=((dn p)+1)) ((0:Nat)) rfl px rfl rfl rfl og og) rfl ?_; clear h; intro sv3 _ _ nnsv3 h
   refine rd0 h (ay rfl) rfl <| gn hK11 <| gr fun K12 hK12=>g0 (ap rfl) rfl <| g0 (ap rfl) rfl ?_; clear h; intro _ _ h
   refine up2 h 0 1 DC rfl rfl (s_copy nn339 (by kernel_rfl) rfl rfl rfl (by rw [cZ,List.length_replicate]; omega)) rfl ?_; clear h; intro _ _ h
   replace h:=h.rowEq 0 rfl (vg (jt p) og)
   refine gz h <| gn hK12 <| gr fun K13 hK13=>g0 (ay rfl) rfl <| gn hK13 <| gq fun K14 hK14=>gr fun K15 hK15=>g0 (ap rfl) rfl ?_; clear h; intro _ _ h
   refine rd0 h (il uu339 rfl (h.dsl 0 rfl)) rfl <| g0 (ap rfl) rfl <| gn hK15 <| gB ?_; clear h; intro _ _ h
   have hz0:dgs (dn p+1) p=dgs (dn p+1) (mx p 0 (p+q)):=by rw [ry]
   rw [hz0] at h
   refine wp_loop_ghost (fun n_ a_ w_=>∃ (i:Nat),n_=dn p+1 - i∧(i≤dn p+1)∧St w0 84 [(11,sq),(12,sv3),(52,(iN (dn p+1))),(53,(iN i)),(13,(.int .u64 ((cy p q i):Int)))] [.row (α:=Nat) 341 sv3 (dgs (dn p+1) (mx p i (p+q))),.row (α:=Nat) 341 sp (dgs (dn p) p),.row (α:=Nat) 341 sq (dgs (dn q) q)] a_ w_) _ ⟨0,rfl,og,(h.pick [0,1,2] DC).sub ⟨rfl,rfl,rfl,rfl,(by rw [yx]; rfl),trivial⟩⟩ ?_
   clear h; rintro _ _ _ ⟨i,rfl,hi,h⟩
   refine gz h <| gr fun K16 hK16=>g0 (j7 rfl rfl) rfl <| gn hK16 <| gq fun K17 hK17=>?_; clear h; intro _ _ h
   refine kA h rfl (fun hc4=>?_) (fun hc4=>?_)
   ·
    have hd4:=of_decide_eq_true hc4
    refine gz h <| gS <| gx hK17 <| gq fun K18 hK18=>gB <| gr fun K19 hK19=>g0 (ap rfl) rfl <| g0 (ay rfl) rfl <| gn hK19 <| gr fun K20 hK20=>?_; clear h; intro _ _ h
    have hlt:i < dn p+1:=by omega
    have hcy:=cy_le p q i
    have hdig:=rQ p q i
    have hnx:=yy p q i
    refine rd0 h (ap rfl) rfl <| g0 (ap rfl) rfl <| g0 (ap rfl) rfl ?_; clear h; intro _ _ h
    refine rd0 h (iy (i:=i) uu339 zz341 rfl rfl (h.dnn 0 rfl og) og) rfl <| g1 0 rfl (iw (k:=0) aa341 zz341 (jB hlt) rfl (Nat.add_zero _) rfl rfl (v:=(.int .u32 (((p / 4294967296 ^ i % 4294967296):Nat):Int))) rfl) rfl <| g0 (be uu341 uu254 rfl (r:=(((p / 4294967296 ^ i % 4294967296):Nat):Int)) (by rw [IntKind.wrap_u64]; omega)) rfl <| g0 (eH rfl rfl (r:=(((cy p q i)+(p / 4294967296 ^ i % 4294967296):Nat):Int)) (by rw [IntKind.wrap_u64]; omega)) rfl <| g0 (ay rfl) rfl <| gn hK20 <| gq fun K21 hK21=>gr fun K22 hK22=>g0 (ap rfl) rfl <| g0 (ap rfl) rfl ?_; clear h; intro _ _ h
    refine rd0 h (il uu339 rfl (h.dsl 2 rfl)) rfl <| g0 (j7 rfl rfl) rfl <| gn hK22 ?_; clear h; intro _ _ h
    refine kA h rfl (fun hc5=>?_) (fun hc5=>?_)
    ·
     have hd5:=of_decide_eq_true hc5
     refine gz h <| gR <| g0 (ap rfl) rfl <| g0 (ap rfl) rfl <| g0 (ap rfl) rfl ?_; clear h; intro _ _ h
     refine rd0 h (iy (i:=i) uu339 zz341 rfl rfl (h.dnn 2 rfl og) og) rfl <| g1 2 rfl (iw (k:=0) aa341 zz341 (d9 (n:=(dn q)) og) rfl (Nat.add_zero _) rfl rfl (v:=(.int .u32 (((q / 4294967296 ^ i % 4294967296):Nat):Int))) rfl) rfl <| g0 (be uu341 uu254 rfl (r:=(((q / 4294967296 ^ i % 4294967296):Nat):Int)) (by rw [IntKind.wrap_u64]; omega)) rfl <| g0 (eH rfl rfl (r:=((((cy p q i)+(p / 4294967296 ^ i % 4294967296))+(q / 4294967296 ^ i % 4294967296):Nat):Int)) (by rw [IntKind.wrap_u64]; omega)) rfl <| g0 (ay rfl) rfl <| gn hK21 <| gR <| g0 (ap rfl) rfl <| g0 (ap rfl) rfl <| g0 (ap rfl) rfl <| g0 (be uu254 uu341 rfl (r:=(((p+q) / 4294967296 ^ i % 4294967296:Nat):Int)) (by rw [IntKind.wrap_u32',hdig]; omega)) rfl <| g0 (ap rfl) rfl <| g0 (ni rfl rfl (r:=((cy p q (i+1):Nat):Int)) DC DC (by rw [show (2:Int) ^ ((32:Int)).toNat=4294967296 from rfl]; rw [hnx]; omega)) rfl ?_; clear h; intro _ _ h
     refine rd0 h (iy (i:=i) uu339 zz341 rfl rfl (h.dnn 0 rfl og) og) rfl ?_; clear h; intro _ _ h
     refine up h 0 rfl (ia (k:=0) (u':=((p+q) / 4294967296 ^ i % 4294967296)) zz341 (jB hlt) rfl rfl rfl rfl rfl rfl rfl rfl) ?_; clear h; intro _ _ h
     replace h:=h.rowEq 0 rfl (na)
     refine rd0 h (ay rfl) rfl <| gx (fun _ _=>fX) <| gN <| gx hK18 <| gR <| g0 (eH rfl rfl (r:=((i+1:Nat):Int)) (by rw [wI]; omega)) rfl <| g0 (ap rfl) rfl <| gx (fun _ _=>fX) ?_; clear h; intro _ _ h
     exact aD ⟨_,og,i+1,rfl,og,h.re [0,1,2]⟩
    ·
     have hd5:=of_decide_eq_false hc5
     have hq0:=rO (i:=i) (jt q) og
     refine gz h <| gS <| gx hK21 <| gR <| g0 (ap rfl) rfl <| g0 (ap rfl) rfl <| g0 (ap rfl) rfl <| g0 (be uu254 uu341 rfl (r:=(((p+q) / 4294967296 ^ i % 4294967296:Nat):Int)) (by rw [IntKind.wrap_u32',hdig]; omega)) rfl <| g0 (ap rfl) rfl <| g0 (ni rfl rfl (r:=((cy p q (i+1):Nat):Int)) DC DC (by rw [show (2:Int) ^ ((32:Int)).toNat=4294967296 from rfl]; rw [hnx]; omega)) rfl ?_; clear h; intro _ _ h
     refine rd0 h (iy (i:=i) uu339 zz341 rfl rfl (h.dnn 0 rfl og) og) rfl ?_; clear h; intro _ _ h
     refine up h 0 rfl (ia (k:=0) (u':=((p+q) / 4294967296 ^ i % 4294967296)) zz341 (jB hlt) rfl rfl rfl rfl rfl rfl rfl rfl) ?_; clear h; intro _ _ h
     replace h:=h.rowEq 0 rfl (na)
     refine rd0 h (ay rfl) rfl <| gx (fun _ _=>fX) <| gN <| gx hK18 <| gR <| g0 (eH rfl rfl (r:=((i+1:Nat):Int)) (by rw [wI]; omega)) rfl <| g0 (ap rfl) rfl <| gx (fun _ _=>fX) ?_; clear h; intro _ _ h
     exact aD ⟨_,og,i+1,rfl,og,h.re [0,1,2]⟩
   ·
    have hd4:=of_decide_eq_false hc4
    refine kd ?_
    refine hK14 _ _ ?_
    refine pm fun K23 hK23=>?_
    have hie:i=dn p+1:=by omega
    subst hie
    rw [sH (by have:=jt p; rw [Nat.pow_succ]; omega) (by rw [Nat.pow_succ]; have h1:=jt p; have h2:=(rN q (dn p)).1 hle; omega)] at h
    refine rd0 h (ap rfl) rfl ?_; clear h; intro _ _ h
    refine clq h cc258 (vs:=[sv3]) rfl (fun w_ hB_ hS_=>eQ (dn p+1) (p+q) sv3 (by rw [Nat.pow_succ]; have h1:=jt p; have h2:=(rN q (dn p)).1 hle; omega) og w_ (row_view hS_ 0 rfl)) rfl ?_; clear h; intro _ _ h
    refine rd0 h (ay rfl) rfl <| gn hK23 <| gT ?_; clear h; intro _ _ h
    have hd:da a b=(p+q):=(by show a+b=p+q; omega)
    exact (rt h) (h.retP (by rw [hd] <;> rfl) (y5 za zb))
def dr (a b:Nat):Nat:=a - b
theorem ik (a:Nat) (b:Nat) (k:Nat) (hk:k≤40) (za:SzB k a) (zb:SzB k b) (hab:b≤a) (w0:World):Calls zP 195 #[(.string (bs a)),(.string (bs b))] w0 (RetP w0 (.string (bs (dr a b))) (SzB k (dr a b))):=by
 refine enter (N:=71) Tryz.func195 rfl rfl ?_; intro ac h
 have hda:=iC za
 have hdb:=iC zb
 refine pm fun K1 hK1=>?_
 refine rd0 h (ay rfl) rfl <| gn hK1 <| gq fun K2 hK2=>gr fun K3 hK3=>g0 (ap rfl) rfl <| g0 (ap rfl) rfl <| gl cc231 rfl (ib a b) rfl <| g0 (ap rfl) rfl <| g0 (cn rfl rfl) rfl <| g0 (cn rfl rfl) rfl <| g0 (cn rfl rfl) rfl <| g0 (ay rfl) rfl <| g0 (ay rfl) rfl <| g0 (ay rfl) rfl <| gn hK3 <| gr fun K4 hK4=>g0 (ap rfl) rfl <| gn hK4 ?_; clear h; intro _ _ h
 refine kA h rfl (fun hc1=>?_) (fun hc1=>?_)
 ·
  obtain ⟨ha6,hb6,hw⟩:=l8 hc1
  simp only [hw] at h
  refine gz h <| gr fun K5 hK5=>g0 (ap rfl) rfl <| g0 (ap rfl) rfl <| g0 (fh rfl rfl (r:=((a - b:Nat):Int)) (by rw [IntKind.wrap_u64]; omega)) rfl <| gl cc191 rfl (dy (a - b) og) rfl <| g0 (ay rfl) rfl <| gn hK5 <| gT ?_; clear h; intro _ _ h
  exact (rt h) (h.retP (by unfold dr; rfl) (iZ za (Nat.sub_le a b)))
 ·
  refine gz h <| gS <| gx hK2 <| gr fun K6 hK6=>g0 (ap rfl) rfl ?_; clear h; intro _ _ h
  refine clr (xs:=(dgs (dn a) a)) h cc257 (vs:=[(.string (bs a))]) rfl (kk (d8 a (kX za))) rfl ?_; clear h; intro sv1 _ _ hpsv1 h
  refine rd0 h (ap rfl) rfl ?_; clear h; intro _ _ h
  refine clr (xs:=(dgs (dn b) b)) h cc257 (vs:=[(.string (bs b))]) rfl (kk (d8 b (kX zb))) rfl ?_; clear h; intro sv2 _ _ hpsv2 h
  refine rd0 h (ay rfl) rfl <| g0 (ay rfl) rfl <| gn hK6 <| gr fun K7 hK7=>g0 (ap rfl) rfl ?_; clear h; intro _ _ h
  refine rd0 h (il uu339 rfl (h.dsl 1 rfl)) rfl ?_; clear h; intro _ _ h
  refine nw h (oN (n:=(dn a)) ((0:Nat)) rfl px rfl rfl rfl (by have:=iC za; omega) (by have:=iC za; omega)) rfl ?_; clear h; intro sv3 _ _ nnsv3 h
  refine rd0 h (ay rfl) rfl <| gn hK7 <| gr fun K8 hK8=>g0 (ap rfl) rfl <| g0 (ap rfl) rfl ?_; clear h; intro _ _ h
  refine up2 h 0 2 DC rfl rfl (s_copy nn339 (by kernel_rfl) rfl rfl rfl (by rw [cZ,List.length_replicate]; omega)) rfl ?_; clear h; intro _ _ h
  replace h:=h.rowEq 0 rfl (vg (jt a) (Nat.le_refl _))
  refine gz h <| gn hK8 <| gr fun K9 hK9=>g0 (ay rfl) rfl <| gn hK9 <| gq fun K10 hK10=>gr fun K11 hK11=>g0 (ap rfl) rfl ?_; clear h; intro _ _ h
  refine rd0 h (il uu339 rfl (h.dsl 0 rfl)) rfl <| g0 (ap rfl) rfl <| gn hK11 <| gB ?_; clear h; intro _ _ h
  replace h:=h.rowEq 0 rfl (by rw [ry]:(dgs (dn a) a)=(dgs (dn a) (mx a 0 (a - b))))
  refine wp_loop_ghost (fun n_ a_ w_=>∃ (i:Nat),n_=dn a - i∧(i≤dn a)∧St w0 71 [(9,sv2),(10,sv3),(37,(iN (dn a))),(38,(iN i)),(11,(iN (bw a b i)))] [.row (α:=Nat) 341 sv3 (dgs (dn a) (mx a i (a - b))),.row (α:=Nat) 341 sv2 (dgs (dn b) b),.row (α:=Nat) 341 sv1 (dgs (dn a) a)] a_ w_) _ ⟨0,rfl,og,(h.pick [0,1,2] DC).sub ⟨rfl,rfl,rfl,rfl,(by rw [yP]; rfl),trivial⟩⟩ ?_
  clear h; rintro _ _ _ ⟨i,rfl,hi,h⟩
  refine gz h <| gr fun K12 hK12=>g0 (j7 rfl rfl) rfl <| gn hK12 <| gq fun K13 hK13=>?_; clear h; intro _ _ h
  refine kA h rfl (fun hc2=>?_) (fun hc2=>?_)
  ·
   have hd2:=of_decide_eq_true hc2
   refine gz h <| gS <| gx hK13 <| gq fun K14 hK14=>gB <| gr fun K15 hK15=>g0 (ap rfl) rfl <| g0 (ay rfl) rfl <| gn hK15 <| gr fun K16 hK16=>?_; clear h; intro _ _ h
   have hlt:i < dn a:=by omega
   have hbl:=yR a b i
   have hst:=yQ (i:=i) rfl rfl hab
   refine rd0 h (ap rfl) rfl <| g0 (ap rfl) rfl ?_; clear h; intro _ _ h
   refine rd0 h (iy (i:=i) uu339 zz341 rfl rfl (h.dnn 0 rfl og) og) rfl <| g1 0 rfl (iw (k:=0) aa341 zz341 (jB hlt) rfl (Nat.add_zero _) rfl rfl (v:=(.int .u32 (((a / 4294967296 ^ i % 4294967296):Nat):Int))) rfl) rfl <| g0 (be uu341 uu2 rfl (r:=(((a / 4294967296 ^ i % 4294967296):Nat):Int)) (by rw [wI]; omega)) rfl <| g0 (ap rfl) rfl <| g0 (fh rfl rfl (r:=((((a / 4294967296 ^ i % 4294967296):Nat):Int) - ((bw a b i):Int))) (by rw [wI]; omega)) rfl <| g0 (ay rfl) rfl <| gn hK16 <| gq fun K17 hK17=>gr fun K18 hK18=>g0 (ap rfl) rfl <| g0 (ap rfl) rfl ?_; clear h; intro _ _ h
   refine rd0 h (il uu339 rfl (h.dsl 1 rfl)) rfl <| g0 (j7 rfl rfl) rfl <| gn hK18 ?_; clear h; intro _ _ h
   refine kA h rfl (fun hc3=>?_) (fun hc3=>?_)
   ·
    have hd3:=of_decide_eq_true hc3
    refine gz h <| gR <| g0 (ap rfl) rfl <| g0 (ap rfl) rfl <| g0 (ap rfl) rfl ?_; clear h; intro _ _ h
    refine rd0 h (iy (i:=i) uu339 zz341 rfl rfl (h.dnn 1 rfl og) og) rfl <| g1 1 rfl (iw (k:=0) aa341 zz341 (d9 (n:=(dn b)) og) rfl (Nat.add_zero _) rfl rfl (v:=(.int .u32 (((b / 4294967296 ^ i % 4294967296):Nat):Int))) rfl) rfl <| g0 (be uu341 uu2 rfl (r:=(((b / 4294967296 ^ i % 4294967296):Nat):Int)) (by rw [wI]; omega)) rfl <| g0 (fh rfl rfl (r:=(((((a / 4294967296 ^ i % 4294967296):Nat):Int) - ((bw a b i):Int)) - (((b / 4294967296 ^ i % 4294967296):Nat):Int))) (by rw [wI]; omega)) rfl <| g0 (ay rfl) rfl <| gn hK17 <| gr fun K19 hK19=>g0 (ay rfl) rfl <| gn hK19 <| gq fun K20 hK20=>gr fun K21 hK21=>g0 (ap rfl) rfl <| g0 (j7 rfl rfl) rfl <| gn hK21 ?_; clear h; intro _ _ h
    refine kA h rfl (fun hc4=>?_) (fun hc4=>?_)
    ·
     have hd4:=of_decide_eq_true hc4
     rw [if_pos og,if_pos og] at hst
     refine gz h <| gR <| g0 (ap rfl) rfl <| g0 (eH rfl rfl (r:=((((((a / 4294967296 ^ i % 4294967296):Nat):Int) - ((bw a b i):Int)) - (((b / 4294967296 ^ i % 4294967296):Nat):Int))+4294967296)) (by rw [wI]; omega)) rfl <| g0 (ay rfl) rfl <| g0 (ay rfl) rfl <| gn hK20 <| gR <| g0 (ap rfl) rfl <| g0 (ap rfl) rfl <| g0 (ap rfl) rfl <| g0 (be uu2 uu341 rfl (r:=(((a - b) / 4294967296 ^ i % 4294967296:Nat):Int)) (by rw [IntKind.wrap_u32',hst.2]; omega)) rfl ?_; clear h; intro _ _ h
     refine rd0 h (iy (i:=i) uu339 zz341 rfl rfl (h.dnn 0 rfl og) og) rfl ?_; clear h; intro _ _ h
     refine up h 0 rfl (ia (k:=0) (u':=((a - b) / 4294967296 ^ i % 4294967296)) zz341 (jB hlt) rfl rfl rfl rfl rfl rfl rfl rfl) ?_; clear h; intro _ _ h
     replace h:=h.rowEq 0 rfl (na)
     refine gz h <| gx (fun _ _=>fX) <| gN <| gx hK14 <| gR <| g0 (eH rfl rfl (r:=((i+1:Nat):Int)) (by rw [wI]; omega)) rfl <| g0 (ap rfl) rfl <| gx (fun _ _=>fX) ?_; clear h; intro _ _ h
     exact aD ⟨_,og,i+1,rfl,og,(h.pick [0,1,2] DC).sub ⟨rfl,rfl,rfl,rfl,(by rw [hst.1]; rfl),trivial⟩⟩
    ·
     have hd4:=of_decide_eq_false hc4
     rw [if_neg og,if_neg og] at hst
     refine gz h <| gS <| gx hK20 <| gR <| g0 (ap rfl) rfl <| g0 (ap rfl) rfl <| g0 (ap rfl) rfl <| g0 (be uu2 uu341 rfl (r:=(((a - b) / 4294967296 ^ i % 4294967296:Nat):Int)) (by rw [IntKind.wrap_u32',hst.2]; omega)) rfl ?_; clear h; intro _ _ h
     refine rd0 h (iy (i:=i) uu339 zz341 rfl rfl (h.dnn 0 rfl og) og) rfl ?_; clear h; intro _ _ h
     refine up h 0 rfl (ia (k:=0) (u':=((a - b) / 4294967296 ^ i % 4294967296)) zz341 (jB hlt) rfl rfl rfl rfl rfl rfl rfl rfl) ?_; clear h; intro _ _ h
     replace h:=h.rowEq 0 rfl (na)
     refine gz h <| gx (fun _ _=>fX) <| gN <| gx hK14 <| gR <| g0 (eH rfl rfl (r:=((i+1:Nat):Int)) (by rw [wI]; omega)) rfl <| g0 (ap rfl) rfl <| gx (fun _ _=>fX) ?_; clear h; intro _ _ h
     exact aD ⟨_,og,i+1,rfl,og,(h.pick [0,1,2] DC).sub ⟨rfl,rfl,rfl,rfl,(by rw [hst.1]; rfl),trivial⟩⟩
   ·
    have hd3:=of_decide_eq_false hc3
    have hq0:=rO (i:=i) (jt b) og
    refine gz h <| gS <| gx hK17 <| gr fun K22 hK22=>g0 (ay rfl) rfl <| gn hK22 <| gq fun K23 hK23=>gr fun K24 hK24=>g0 (ap rfl) rfl <| g0 (j7 rfl rfl) rfl <| gn hK24 ?_; clear h; intro _ _ h
    refine kA h rfl (fun hc5=>?_) (fun hc5=>?_)
    ·
     have hd5:=of_decide_eq_true hc5
     rw [if_pos og,if_pos og] at hst
     refine gz h <| gR <| g0 (ap rfl) rfl <| g0 (eH rfl rfl (r:=(((((a / 4294967296 ^ i % 4294967296):Nat):Int) - ((bw a b i):Int))+4294967296)) (by rw [wI]; omega)) rfl <| g0 (ay rfl) rfl <| g0 (ay rfl) rfl <| gn hK23 <| gR <| g0 (ap rfl) rfl <| g0 (ap rfl) rfl <| g0 (ap rfl) rfl <| g0 (be uu2 uu341 rfl (r:=(((a - b) / 4294967296 ^ i % 4294967296:Nat):Int)) (by rw [IntKind.wrap_u32',hst.2]; omega)) rfl ?_; clear h; intro _ _ h
     refine rd0 h (iy (i:=i) uu339 zz341 rfl rfl (h.dnn 0 rfl og) og) rfl ?_; clear h; intro _ _ h
     refine up h 0 rfl (ia (k:=0) (u':=((a - b) / 4294967296 ^ i % 4294967296)) zz341 (jB hlt) rfl rfl rfl rfl rfl rfl rfl rfl) ?_; clear h; intro _ _ h
     replace h:=h.rowEq 0 rfl (na)
     refine gz h <| gx (fun _ _=>fX) <| gN <| gx hK14 <| gR <| g0 (eH rfl rfl (r:=((i+1:Nat):Int)) (by rw [wI]; omega)) rfl <| g0 (ap rfl) rfl <| gx (fun _ _=>fX) ?_; clear h; intro _ _ h
     exact aD ⟨_,og,i+1,rfl,og,(h.pick [0,1,2] DC).sub ⟨rfl,rfl,rfl,rfl,(by rw [hst.1]; rfl),trivial⟩⟩
    ·
     have hd5:=of_decide_eq_false hc5
     rw [if_neg og,if_neg og] at hst
     refine gz h <| gS <| gx hK23 <| gR <| g0 (ap rfl) rfl <| g0 (ap rfl) rfl <| g0 (ap rfl) rfl <| g0 (be uu2 uu341 rfl (r:=(((a - b) / 4294967296 ^ i % 4294967296:Nat):Int)) (by rw [IntKind.wrap_u32',hst.2]; omega)) rfl ?_; clear h; intro _ _ h
     refine rd0 h (iy (i:=i) uu339 zz341 rfl rfl (h.dnn 0 rfl og) og) rfl ?_; clear h; intro _ _ h
     refine up h 0 rfl (ia (k:=0) (u':=((a - b) / 4294967296 ^ i % 4294967296)) zz341 (jB hlt) rfl rfl rfl rfl rfl rfl rfl rfl) ?_; clear h; intro _ _ h
     replace h:=h.rowEq 0 rfl (na)
     refine gz h <| gx (fun _ _=>fX) <| gN <| gx hK14 <| gR <| g0 (eH rfl rfl (r:=((i+1:Nat):Int)) (by rw [wI]; omega)) rfl <| g0 (ap rfl) rfl <| gx (fun _ _=>fX) ?_; clear h; intro _ _ h
     exact aD ⟨_,og,i+1,rfl,og,(h.pick [0,1,2] DC).sub ⟨rfl,rfl,rfl,rfl,(by rw [hst.1]; rfl),trivial⟩⟩
  ·
   have hd2:=of_decide_eq_false hc2
   refine kd ?_
   refine hK10 _ _ ?_
   refine pm fun K25 hK25=>?_
   have hie:i=dn a:=by omega
   subst hie
   rw [sH (jt a) (by have:=jt a; omega)] at h
   refine rd0 h (ap rfl) rfl ?_; clear h; intro _ _ h
   refine clq h cc258 (vs:=[sv3]) rfl (fun w_ hB_ hS_=>eQ (dn a) (a - b) sv3 (by have:=jt a; omega) (by have:=iC za; omega) w_ (row_view hS_ 0 rfl)) rfl ?_; clear h; intro _ _ h
   refine rd0 h (ay rfl) rfl <| gn hK25 <| gT ?_; clear h; intro _ _ h
   exact (rt h) (h.retP (by unfold dr; rfl) (iZ za (Nat.sub_le a b)))
def fP (a b:Nat):Nat:=a*b
theorem kW (a:Nat) (b:Nat) (k:Nat) (hk:(k+1)≤40) (za:SzB (k+1) a) (zb:SzB (k+1) b) (w0:World):Calls zP 196 #[(.string (bs a)),(.string (bs b))] w0 (RetP w0 (.string (bs (fP a b))) (SzB k (fP a b))):=by
 refine enter (N:=97) Tryz.func196 rfl rfl ?_; intro ac h
 have hda:=mJ za
 have hdb:=mJ zb
 refine pm fun K1 hK1=>?_
 refine rd0 h (ay rfl) rfl <| gn hK1 ?_; clear h ac; intro ac wo h
 refine wt (fun a_ w_=>St w0 97 [(0,(.string (bs a))),(1,(.string (bs b)))] [] a_ w_) (fun K2 hK2=>?_) ?_
 ·
  refine gz h <| gr fun K3 hK3=>g0 (ap rfl) rfl <| g0 (ap rfl) rfl <| gl cc231 rfl (ib a b) rfl <| g0 (ap rfl) rfl <| g0 (cn rfl rfl) rfl <| g0 (cn rfl rfl) rfl <| g0 (cn rfl rfl) rfl <| g0 (ay rfl) rfl <| g0 (ay rfl) rfl <| g0 (ay rfl) rfl <| gn hK3 <| gr fun K4 hK4=>g0 (ap rfl) rfl <| gn hK4 ?_; clear h ac wo; intro ac wo h
  refine kA h rfl (fun hc1=>?_) (fun hc1=>?_)
  ·
   obtain ⟨ha6,hb6,hw⟩:=l8 hc1
   simp only [hw] at h
   refine gz h <| gr fun K5 hK5=>g0 (ap rfl) rfl <| g0 (ap rfl) rfl <| gl Tryz.call260 rfl (mul64 a b og og) rfl <| g0 (ap rfl) rfl <| g0 (cn rfl rfl) rfl <| g0 (cn rfl rfl) rfl <| g0 (ay rfl) rfl <| g0 (ay rfl) rfl <| gn hK5 <| gr fun K6 hK6=>g0 (ap rfl) rfl <| g0 (rh rfl rfl) rfl <| gn hK6 ?_; clear h ac wo; intro ac wo h
   refine kA h rfl (fun hc2=>?_) (fun hc2=>?_)
   ·
    have hd2:=eq_of_beq hc2
    refine gz h <| gr fun K7 hK7=>g0 (ap rfl) rfl <| gl cc191 rfl (dy (a*b % 18446744073709551616) og) rfl <| g0 (ay rfl) rfl <| gn hK7 <| gT ?_; clear h ac wo; intro ac wo h
    have hd:fP a b=(bO (a*b % 18446744073709551616)):=(by show a*b=a*b % 18446744073709551616; omega)
    exact (rt h) (h.retP (by rw [hd] <;> rfl) (y4 za zb))
   ·
    have hd2:=ne_of_beq_false hc2
    refine mE ?_
    exact hK2 _ _ ((h.pick [] DC).sub ⟨rfl,rfl,trivial⟩)
  ·
   refine mE ?_
   exact hK2 _ _ ((h.pick [] DC).sub ⟨rfl,rfl,trivial⟩)
 ·
  clear h ac wo; intro ac wo h
  refine gz h <| gr fun K8 hK8=>g0 (ap rfl) rfl ?_; clear h ac wo; intro ac wo h
  refine clr (xs:=(dgs (dn a) a)) h cc257 (vs:=[(.string (bs a))]) rfl (kk (d8 a (kX za))) rfl ?_; clear h ac wo; intro sv1 ac wo hpsv1 h
  refine rd0 h (ap rfl) rfl ?_; clear h ac wo; intro ac wo h
  refine clr (xs:=(dgs (dn b) b)) h cc257 (vs:=[(.string (bs b))]) rfl (kk (d8 b (kX zb))) rfl ?_; clear h ac wo; intro sv2 ac wo hpsv2 h
  refine rd0 h (ay rfl) rfl <| g0 (ay rfl) rfl <| gn hK8 <| gr fun K9 hK9=>g0 (ap rfl) rfl ?_; clear h ac wo; intro ac wo h
  refine rd0 h (il uu339 rfl (h.dsl 1 rfl)) rfl <| g0 (ap rfl) rfl ?_; clear h ac wo; intro ac wo h
  refine rd0 h (il uu339 rfl (h.dsl 0 rfl)) rfl <| g0 (eH rfl rfl (r:=(((dn a)+(dn b):Nat):Int)) (by have:=iC za; have:=iC zb; rw [wI]; omega)) rfl <| g0 (eH rfl rfl (r:=((((dn a)+(dn b))+1:Nat):Int)) (by have:=iC za; have:=iC zb; rw [wI]; omega)) rfl ?_; clear h ac wo; intro ac wo h
  refine nw h (oN (n:=(((dn a)+(dn b))+1)) ((0:Nat)) rfl px rfl rfl rfl (by have:=mJ za; have:=mJ zb; omega) (by have:=mJ za; have:=mJ zb; omega)) rfl ?_; clear h ac wo; intro sv3 ac wo nnsv3 h
  refine rd0 h (ay rfl) rfl <| gn hK9 <| gq fun K10 hK10=>gr fun K11 hK11=>g0 (ap rfl) rfl ?_; clear h ac wo; intro ac wo h
  refine rd0 h (il uu339 rfl (h.dsl 2 rfl)) rfl <| g0 (ap rfl) rfl <| gn hK11 <| gB ?_; clear h ac wo; intro ac wo h
  replace h:=h.rowEq 0 rfl (by rw [show a % 4294967296 ^ 0*b=0 by simp [Nat.mod_one]]; exact (nT _).symm:(List.replicate (((dn a)+(dn b))+1) (0:Nat))=(dgs (dn a+dn b+1) (a % 4294967296 ^ 0*b)))
  refine wp_loop_ghost (fun n_ a_ w_=>∃ (i:Nat),n_=dn a - i∧(i≤dn a)∧St w0 97 [(11,sv2),(12,sv3),(46,sv1),(47,(iN (dn a))),(48,(iN i))] [.row (α:=Nat) 341 sv3 (dgs (dn a+dn b+1) (a % 4294967296 ^ i*b)),.row (α:=Nat) 341 sv2 (dgs (dn b) b),.row (α:=Nat) 341 sv1 (dgs (dn a) a)] a_ w_) _ ⟨0,rfl,og,h.re [0,1,2]⟩ ?_
  clear h ac wo; rintro _ ac wo ⟨i,rfl,hi,h⟩
  refine gz h <| gr fun K12 hK12=>g0 (j7 rfl rfl) rfl <| gn hK12 <| gq fun K13 hK13=>?_; clear h ac wo; intro ac wo h
  refine kA h rfl (fun hc3=>?_) (fun hc3=>?_)
  ·
   have hd3:=of_decide_eq_true hc3
   refine gz h <| gS <| gx hK13 <| gq fun K14 hK14=>gB <| gr fun K15 hK15=>g0 (ap rfl) rfl ?_; clear h ac wo; intro ac wo h
   refine rd0 h (iy (i:=i) uu339 zz341 rfl rfl (h.dnn 2 rfl og) og) rfl <| g1 2 rfl (iw (k:=0) aa341 zz341 (d9 (n:=(dn a)) og) rfl (Nat.add_zero _) rfl rfl (v:=(.int .u32 (((a / 4294967296 ^ i % 4294967296):Nat):Int))) rfl) rfl <| g0 (ay rfl) rfl <| g0 (ay rfl) rfl <| gn hK15 <| gr fun K16 hK16=>g0 (ay rfl) rfl <| gn hK16 <| gq fun K17 hK17=>gr fun K18 hK18=>g0 (ap rfl) rfl ?_; clear h ac wo; intro ac wo h
   refine rd0 h (il uu339 rfl (h.dsl 1 rfl)) rfl <| g0 (ap rfl) rfl <| gn hK18 <| gB ?_; clear h ac wo; intro ac wo h
   have hlt:i < dn a:=by omega
   replace h:=h.rowEq 0 rfl (by show _=dgs _ (mx (a % 4294967296 ^ i*b) i (a % 4294967296 ^ (i+1)*b)); rw [xA,mx_start]:(dgs (dn a+dn b+1) (a % 4294967296 ^ i*b))=(dgs (dn a+dn b+1) (mx (a % 4294967296 ^ i*b) (i+0) (a % 4294967296 ^ (i+1)*b))))
   refine wp_loop_ghost (fun n_ a_ w_=>∃ (k:Nat),n_=dn b - k∧(k≤dn b)∧St w0 97 [(11,sv2),(12,sv3),(46,sv1),(47,(iN (dn a))),(48,(iN i)),(13,(iN i)),(14,(.int .u32 (((a / 4294967296 ^ i % 4294967296):Nat):Int))),(54,(iN (dn b))),(55,(iN k)),(15,(.int .u64 (((mc (a % 4294967296 ^ i*b / 4294967296 ^ i) (a / 4294967296 ^ i % 4294967296) b k):Nat):Int)))] [.row (α:=Nat) 341 sv3 (dgs (dn a+dn b+1) (mx (a % 4294967296 ^ i*b) (i+k) (a % 4294967296 ^ (i+1)*b))),.row (α:=Nat) 341 sv2 (dgs (dn b) b),.row (α:=Nat) 341 sv1 (dgs (dn a) a)] a_ w_) _ ⟨0,rfl,og,(h.pick [0,1,2] DC).sub ⟨rfl,rfl,rfl,rfl,rfl,rfl,rfl,rfl,rfl,(by rw [xS]; rfl),trivial⟩⟩ ?_
   clear h ac wo; rintro _ ac wo ⟨k,rfl,hk,h⟩
   refine gz h <| gr fun K19 hK19=>g0 (j7 rfl rfl) rfl <| gn hK19 <| gq fun K20 hK20=>?_; clear h ac wo; intro ac wo h
   refine kA h rfl (fun hc4=>?_) (fun hc4=>?_)
   ·
    have hd4:=of_decide_eq_true hc4
    refine gz h <| gS <| gx hK20 <| gq fun K21 hK21=>gB <| gr fun K22 hK22=>g0 (ap rfl) rfl <| g0 (ay rfl) rfl <| gn hK22 <| gq fun K23 hK23=>?_; clear h ac wo; intro ac wo h
    have hlk:i+k < dn a+dn b+1:=by omega
    have hcl:(mc (a % 4294967296 ^ i*b / 4294967296 ^ i) (a / 4294967296 ^ i % 4294967296) b k) < 4294967296:=mc_lt (Nat.mod_lt _ DC)
    have hdig:=pp_digit a b i k
    have hnx:=pp_carry a b i k
    have hml:=oF (x:=(a / 4294967296 ^ i % 4294967296)) (y:=b / 4294967296 ^ k % 4294967296) (Nat.mod_lt _ DC) (Nat.mod_lt _ DC)
    refine im mixed [dv _,dv _,dv _,dv _,dv _,dv _,dw _ [0],dv _,dv _,dv _,dv _,dv _,dv _,dw _ [1],dv _,dv _,dv _,dv _,dv _] [ge _,ge _,ge _] h rfl (by kernel_rfl) ⟨fun _ _=>om rfl,fun _ _=>om rfl,fun _ _=>om rfl,fun _ _=>om rfl,fun _ _=>bg (eH rfl rfl (r:=((i+k:Nat):Int)) (by have:=iC za; have:=iC zb; rw [wI]; omega)),fun _ _=>bg (iy (i:=(i+k)) uu339 zz341 rfl rfl (h.dnn 0 rfl og) og),fun _ _=>js _ rfl rfl (iw (k:=0) aa341 zz341 (jB hlk) rfl (Nat.add_zero _) rfl rfl (v:=(.int .u32 ((((a % 4294967296 ^ i*b) / 4294967296 ^ (i+k) % 4294967296):Nat):Int))) rfl),fun _ _=>bg (be uu341 uu254 rfl (r:=((((a % 4294967296 ^ i*b) / 4294967296 ^ (i+k) % 4294967296):Nat):Int)) (by rw [IntKind.wrap_u64]; omega)),fun _ _=>om rfl,fun _ _=>bg (be uu341 uu254 rfl (r:=(((a / 4294967296 ^ i % 4294967296):Nat):Int)) (by rw [IntKind.wrap_u64]; omega)),fun _ _=>om rfl,fun _ _=>om rfl,fun _ _=>bg (iy (i:=k) uu339 zz341 rfl rfl (h.dnn 1 rfl og) og),fun _ _=>js _ rfl rfl (iw (k:=0) aa341 zz341 (d9 (n:=(dn b)) og) rfl (Nat.add_zero _) rfl rfl (v:=(.int .u32 (((b / 4294967296 ^ k % 4294967296):Nat):Int))) rfl),fun _ _=>bg (be uu341 uu254 rfl (r:=(((b / 4294967296 ^ k % 4294967296):Nat):Int)) (by rw [IntKind.wrap_u64]; omega)),fun _ _=>bg (mg rfl rfl (r:=(((a / 4294967296 ^ i % 4294967296)*(b / 4294967296 ^ k % 4294967296):Nat):Int)) (by rw [IntKind.wrap_u64]; omega)),fun _ _=>bg (eH rfl rfl (r:=((((a % 4294967296 ^ i*b) / 4294967296 ^ (i+k) % 4294967296)+((a / 4294967296 ^ i % 4294967296)*(b / 4294967296 ^ k % 4294967296)):Nat):Int)) (by rw [IntKind.wrap_u64]; omega)),fun _ _=>bg (eH rfl rfl (r:=(((mc (a % 4294967296 ^ i*b / 4294967296 ^ i) (a / 4294967296 ^ i % 4294967296) b k)+(((a % 4294967296 ^ i*b) / 4294967296 ^ (i+k) % 4294967296)+((a / 4294967296 ^ i % 4294967296)*(b / 4294967296 ^ k % 4294967296))):Nat):Int)) (by rw [IntKind.wrap_u64]; omega)),fun _ _=>bg (ay rfl),trivial⟩ ?_
    clear h ac wo; intro ξ ac wo hφ h
    replace h:St w0 97 [(11,sv2),(12,sv3),(46,sv1),(47,(iN (dn a))),(48,(iN i)),(13,(iN i)),(14,(.int .u32 (((a / 4294967296 ^ i % 4294967296):Nat):Int))),(54,(iN (dn b))),(55,(iN k)),(15,(.int .u64 (((mc (a % 4294967296 ^ i*b / 4294967296 ^ i) (a / 4294967296 ^ i % 4294967296) b k)+(((a % 4294967296 ^ i*b) / 4294967296 ^ (i+k) % 4294967296)+((a / 4294967296 ^ i % 4294967296)*(b / 4294967296 ^ k % 4294967296))):Nat):Int))),(16,(iN k))] [.row (α:=Nat) 341 sv3 (dgs (dn a+dn b+1) (mx (a % 4294967296 ^ i*b) (i+k) (a % 4294967296 ^ (i+1)*b))),.row (α:=Nat) 341 sv2 (dgs (dn b) b),.row (α:=Nat) 341 sv1 (dgs (dn a) a)] ac wo:=h.sub ⟨rfl,rfl,rfl,rfl,rfl,rfl,rfl,rfl,rfl,rfl,rfl,trivial⟩
    clear hφ ξ
    refine gz h <| gx hK23 <| gR <| g0 (ap rfl) rfl <| g0 (ap rfl) rfl <| g0 (ap rfl) rfl <| g0 (eH rfl rfl (r:=((i+k:Nat):Int)) (by have:=iC za; have:=iC zb; rw [wI]; omega)) rfl <| g0 (ap rfl) rfl <| g0 (be uu254 uu341 rfl (r:=(((a % 4294967296 ^ (i+1)*b) / 4294967296 ^ (i+k) % 4294967296:Nat):Int)) (by rw [IntKind.wrap_u32',hdig]; omega)) rfl <| g0 (ap rfl) rfl <| g0 (ni rfl rfl (r:=(((mc (a % 4294967296 ^ i*b / 4294967296 ^ i) (a / 4294967296 ^ i % 4294967296) b (k+1)):Nat):Int)) DC DC (by rw [show (2:Int) ^ ((32:Int)).toNat=4294967296 from rfl]; rw [hnx]; omega)) rfl ?_; clear h ac wo; intro ac wo h
    refine rd0 h (iy (i:=(i+k)) uu339 zz341 rfl rfl (h.dnn 0 rfl og) og) rfl ?_; clear h ac wo; intro ac wo h
    refine up h 0 rfl (ia (k:=0) (u':=((a % 4294967296 ^ (i+1)*b) / 4294967296 ^ (i+k) % 4294967296)) zz341 (jB hlk) rfl rfl rfl rfl rfl rfl rfl rfl) ?_; clear h ac wo; intro ac wo h
    replace h:=h.rowEq 0 rfl (na)
    refine rd0 h (ay rfl) rfl <| gx (fun _ _=>fX) <| gN <| gx hK21 <| gR <| g0 (eH rfl rfl (r:=((k+1:Nat):Int)) (by have:=iC zb; rw [wI]; omega)) rfl <| g0 (ap rfl) rfl <| gx (fun _ _=>fX) ?_; clear h ac wo; intro ac wo h
    exact aD ⟨_,og,k+1,rfl,og,h.re [0,1,2]⟩
   ·
    have hd4:=of_decide_eq_false hc4
    refine kd ?_
    refine hK17 _ _ ?_
    refine c_r ?_
    have hke:k=dn b:=by omega
    subst hke
    have hlk:i+dn b < dn a+dn b+1:=by omega
    have hlast:=pp_last (a:=a) (i:=i) (jt b)
    refine rd0 h (ap rfl) rfl <| g0 (ap rfl) rfl <| g0 (ap rfl) rfl ?_; clear h ac wo; intro ac wo h
    refine rd0 h (il uu339 rfl (h.dsl 1 rfl)) rfl <| g0 (eH rfl rfl (r:=((i+(dn b):Nat):Int)) (by have:=iC za; have:=iC zb; rw [wI]; omega)) rfl <| g0 (ap rfl) rfl <| g0 (be uu254 uu341 rfl (r:=(((a % 4294967296 ^ (i+1)*b) / 4294967296 ^ (i+dn b) % 4294967296:Nat):Int)) (by rw [hlast,IntKind.wrap_u32']; omega)) rfl ?_; clear h ac wo; intro ac wo h
    refine rd0 h (iy (i:=(i+(dn b))) uu339 zz341 rfl rfl (h.dnn 0 rfl og) og) rfl ?_; clear h ac wo; intro ac wo h
    refine up h 0 rfl (ia (k:=0) (u':=((a % 4294967296 ^ (i+1)*b) / 4294967296 ^ (i+dn b) % 4294967296)) zz341 (jB hlk) rfl rfl rfl rfl rfl rfl rfl rfl) ?_; clear h ac wo; intro ac wo h
    replace h:=h.rowEq 0 rfl (by rw [na,sH (Nat.lt_of_lt_of_le (pp_lt (a:=a) (i:=i) (jt b)) (Nat.pow_le_pow_right DC og)) (Nat.lt_of_lt_of_le (pp_lt (a:=a) (i:=i+1) (jt b)) (Nat.pow_le_pow_right DC og))])
    refine gz h <| gx (fun _ _=>fX) <| gN <| gx hK14 <| gR <| g0 (eH rfl rfl (r:=((i+1:Nat):Int)) (by have:=iC za; rw [wI]; omega)) rfl <| g0 (ap rfl) rfl <| gx (fun _ _=>fX) ?_; clear h ac wo; intro ac wo h
    exact aD ⟨_,og,i+1,rfl,og,h.re [0,1,2]⟩
  ·
   have hd3:=of_decide_eq_false hc3
   refine kd ?_
   refine hK10 _ _ ?_
   refine pm fun K24 hK24=>?_
   have hie:i=dn a:=by omega
   subst hie
   rw [Nat.mod_eq_of_lt (jt a)] at h
   refine rd0 h (ap rfl) rfl ?_; clear h ac wo; intro ac wo h
   refine clq h cc258 (vs:=[sv3]) rfl (fun w_ hB_ hS_=>eQ (dn a+dn b+1) (a*b) sv3 (by have:=pp_lt (a:=a) (i:=dn a) (jt b); rw [Nat.mod_eq_of_lt (jt a)] at this; exact Nat.lt_of_lt_of_le this (Nat.pow_le_pow_right DC og)) (by have:=mJ za; have:=mJ zb; omega) w_ (row_view hS_ 0 rfl)) rfl ?_; clear h ac wo; intro ac wo h
   refine rd0 h (ay rfl) rfl <| gn hK24 <| gT ?_; clear h ac wo; intro ac wo h
   exact (rt h) (h.retP (by unfold fP; rfl) (y4 za zb))
def aq (n:Int):GI:=⟨decide (n < 0),n.natAbs⟩
theorem ee (n:Int) (k:Nat) (hk:k≤40) (hn:-9223372036854775808≤n∧n≤9223372036854775807) (w0:World):Calls zP 93 #[(.int .i64 n)] w0 (RetP w0 (vI (aq n)) (SzI k (aq n))):=by
 refine enter (N:=15) Tryz.func93 rfl rfl ?_; intro ac h
 have hsz:SzB k n.natAbs:=Nat.le_trans (Nat.mul_le_mul ((d4 8 n.natAbs).2 (by simp; omega)) (Nat.pow_le_pow_right DC (by omega:k≤40))) DC
 refine gz h <| (xa) fun b1=>(xo (hs:=by exact be Tryz.runUnderlying3 uu254 rfl (r:=((if n < 0 then 18446744073709551616 - n.natAbs else n.natAbs:Nat):Int)) (by rw [IntKind.wrap_u64]; split <;> omega))) <| (ai) ?_ ?_ <;> clear h <;> intro _ _ h hc1
 ·
  have hd1:=of_decide_eq_true hc1
  have c1:=cg (decide (n < 0)) (bO n.natAbs) k og hsz
  have s1:=au (c1 w0)
  have hd:aq n=(aQ (decide (n < 0)) (bO n.natAbs)):=(by unfold aq aQ bO; simp; omega)
  refine gz h <| (xo (hs:=by exact r_neg rfl (r:=(n.natAbs:Int)) (by rw [if_pos hd1,IntKind.wrap_u64]; omega))) <| (xk (dy n.natAbs og)) <| (xk c1) <| (W) ?_; clear h; intro _ _ h
  exact ret h rfl (.cell (v:=(vI (aQ (decide (n < 0)) (bO n.natAbs)))) rfl (i:=0) rfl aa25 zz25 rfl rfl rfl .nil) rfl (h.retP (by rw [hd] <;> rfl) (by rw [hd]; exact s1))
 ·
  have hd1:=of_decide_eq_false hc1
  rw [if_neg hd1] at h
  have c2:=cg (decide (n < 0)) (bO n.natAbs) k og hsz
  have s2:=au (c2 w0)
  have hd:aq n=(aQ (decide (n < 0)) (bO n.natAbs)):=(by unfold aq aQ bO; simp; omega)
  refine gz h <| (xk (dy n.natAbs og)) <| (xk c2) <| (W) ?_; clear h; intro _ _ h
  exact ret h rfl (.cell (v:=(vI (aQ (decide (n < 0)) (bO n.natAbs)))) rfl (i:=0) rfl aa25 zz25 rfl rfl rfl .nil) rfl (h.retP (by rw [hd] <;> rfl) (by rw [hd]; exact s2))
end Go.Sx
