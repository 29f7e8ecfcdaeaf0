/- A part of the proof of movingnumberChecks. -/
import Derived.Test.YtpfdaoajcnophaaGreatDoorProg
import Derived.Shelf.Strings.Trim
import Derived.Shelf.Small.Bits
import Derived.Shelf.Small.Strs
import Derived.Shelf.Bits.Mul64
import Derived.Laws.Externs
import Derived.Test.YtpfdaoajcnophaaGreatDoorA4
set_option linter.unusedVariables false
set_option linter.unusedSimpArgs false
open Go.Proofs.Tryz renaming underlying3 → nn3, isAgg3 → aa3, sizeOf3 → zz3, zeroValue3 → vv3, underlying4 → nn4, isAgg4 → aa4, sizeOf4 → zz4, zeroValue4 → vv4, underlying5 → nn5, isAgg5 → aa5, sizeOf5 → zz5, zeroValue5 → vv5, underlying9 → nn9, isAgg9 → aa9, sizeOf9 → zz9, zeroValue9 → vv9, underlying348 → nn348, isAgg348 → aa348, sizeOf348 → zz348, zeroValue348 → vv348, underlying260 → nn260, zeroValue260 → vv260
namespace Go.Proofs
open Go.Shelf
def Tryz.lays161_ren:Go.Shelf.Ren:=⟨fun | 161=>311 | 231=>344 | 227=>345 | 233=>346 | 235=>347 | 228=>364 | 197=>365 | 151=>366 | 260=>375 | 152=>376 | 137=>380 | 119=>381 | 224=>382 | 225=>383 | 217=>385 | 266=>386 | n=>n,fun | 9=>9 | 4=>4 | 3=>3 | 5=>5 | 117=>401 | 116=>400 | 0=>0 | 124=>404 | 105=>426 | 21=>21 | 119=>441 | 46=>348 | 139=>444 | 138=>443 | n=>n,fun | 3=>1 | 4=>2 | n=>n⟩
theorem Tryz.lays161:Go.Proofs.Lays.n161 Tryz.prog Tryz.lays161_ren:={
 mixed:=by kernel_rfl
 f119:=Tryz.func381.trans (congrArg some (by kernel_rfl))
 f137:=Tryz.func380.trans (congrArg some (by kernel_rfl))
 f151:=Tryz.func366.trans (congrArg some (by kernel_rfl))
 f152:=Tryz.func376.trans (congrArg some (by kernel_rfl))
 f161:=Tryz.func311.trans (congrArg some (by kernel_rfl))
 f197:=Tryz.func365.trans (congrArg some (by kernel_rfl))
 f217:=Tryz.func385.trans (congrArg some (by kernel_rfl))
 f224:=Tryz.func382.trans (congrArg some (by kernel_rfl))
 f225:=Tryz.func383.trans (congrArg some (by kernel_rfl))
 f227:=Tryz.func345.trans (congrArg some (by kernel_rfl))
 f228:=Tryz.func364.trans (congrArg some (by kernel_rfl))
 f231:=Tryz.func344.trans (congrArg some (by kernel_rfl))
 f233:=Tryz.func346.trans (congrArg some (by kernel_rfl))
 f235:=Tryz.func347.trans (congrArg some (by kernel_rfl))
 f260:=Tryz.func375.trans (congrArg some (by kernel_rfl))
 f266:=Tryz.func386.trans (congrArg some (by kernel_rfl))
 t0:=Tryz.underlying0
 a0:=Tryz.isAgg0
 z0:=Tryz.sizeOf0
 v0:=Tryz.zeroValue0
 t3:=nn3
 a3:=aa3
 z3:=zz3
 v3:=vv3
 t4:=nn4
 a4:=aa4
 z4:=zz4
 v4:=vv4
 t5:=nn5
 a5:=aa5
 z5:=zz5
 v5:=vv5
 t9:=nn9
 a9:=aa9
 z9:=zz9
 v9:=vv9
 t21:=Tryz.underlying21
 a21:=Tryz.isAgg21
 z21:=Tryz.sizeOf21
 v21:=Tryz.zeroValue21
 t46:=nn348
 a46:=aa348
 z46:=zz348
 v46:=vv348
 t105:=Tryz.underlying426
 a105:=Tryz.isAgg426
 z105:=Tryz.sizeOf426
 v105:=Tryz.zeroValue426
 t116:=Tryz.underlying400
 a116:=Tryz.isAgg400
 z116:=Tryz.sizeOf400
 t117:=Tryz.underlying401
 a117:=Tryz.isAgg401
 z117:=Tryz.sizeOf401
 v117:=Tryz.zeroValue401
 t119:=Tryz.underlying441
 a119:=Tryz.isAgg441
 z119:=Tryz.sizeOf441
 t124:=Tryz.underlying404
 a124:=Tryz.isAgg404
 z124:=Tryz.sizeOf404
 v124:=Tryz.zeroValue404
 t138:=Tryz.underlying443
 a138:=Tryz.isAgg443
 z138:=Tryz.sizeOf443
 v138:=Tryz.zeroValue443
 t139:=Tryz.underlying444
 a139:=Tryz.isAgg444
 z139:=Tryz.sizeOf444
 v139:=Tryz.zeroValue444
 g3:=by kernel_rfl
 g4:=by kernel_rfl }
def Tryz.lays106_ren:Go.Shelf.Ren:=⟨fun | 106=>271 | 213=>309 | 265=>343 | n=>n,fun | 9=>9 | 3=>3 | n=>n,fun | n=>n⟩
theorem Tryz.lays106:Go.Proofs.Lays.n106 Tryz.prog Tryz.lays106_ren:={
 mixed:=by kernel_rfl
 f106:=Tryz.func271.trans (congrArg some (by kernel_rfl))
 f213:=Tryz.func309.trans (congrArg some (by kernel_rfl))
 f265:=Tryz.func343.trans (congrArg some (by kernel_rfl))
 t3:=nn3
 a3:=aa3
 z3:=zz3
 v3:=vv3
 t9:=nn9
 a9:=aa9
 z9:=zz9
 v9:=vv9 }
def Tryz.lays129_ren:Go.Shelf.Ren:=⟨fun | 129=>272 | n=>n,fun | 53=>260 | 3=>3 | 4=>4 | 46=>348 | 5=>5 | 9=>9 | n=>n,fun | n=>n⟩
theorem Tryz.lays129:Go.Proofs.Lays.n129 Tryz.prog Tryz.lays129_ren:={
 mixed:=by kernel_rfl
 f129:=Tryz.func272.trans (congrArg some (by kernel_rfl))
 t3:=nn3
 a3:=aa3
 z3:=zz3
 v3:=vv3
 t4:=nn4
 a4:=aa4
 z4:=zz4
 v4:=vv4
 t5:=nn5
 a5:=aa5
 z5:=zz5
 v5:=vv5
 t9:=nn9
 a9:=aa9
 z9:=zz9
 v9:=vv9
 t46:=nn348
 a46:=aa348
 z46:=zz348
 v46:=vv348
 t53:=nn260
 a53:=Tryz.isAgg260
 z53:=Tryz.sizeOf260
 v53:=vv260 }
def Tryz.lays133_ren:Go.Shelf.Ren:=⟨fun | 133=>276 | 128=>312 | n=>n,fun | 51=>343 | 3=>3 | 4=>4 | 46=>348 | 5=>5 | 9=>9 | n=>n,fun | n=>n⟩
theorem Tryz.lays133:Go.Proofs.Lays.n133 Tryz.prog Tryz.lays133_ren:={
 mixed:=by kernel_rfl
 f128:=Tryz.func312.trans (congrArg some (by kernel_rfl))
 f133:=Tryz.func276.trans (congrArg some (by kernel_rfl))
 t3:=nn3
 a3:=aa3
 z3:=zz3
 v3:=vv3
 t4:=nn4
 a4:=aa4
 z4:=zz4
 v4:=vv4
 t5:=nn5
 a5:=aa5
 z5:=zz5
 v5:=vv5
 t9:=nn9
 a9:=aa9
 z9:=zz9
 v9:=vv9
 t46:=nn348
 a46:=aa348
 z46:=zz348
 v46:=vv348
 t51:=Tryz.underlying343
 a51:=Tryz.isAgg343
 z51:=Tryz.sizeOf343
 v51:=Tryz.zeroValue343 }
def Tryz.lays264_ren:Go.Shelf.Ren:=⟨fun | 264=>325 | n=>n,fun | 53=>260 | 46=>348 | n=>n,fun | n=>n⟩
theorem Tryz.lays264:Go.Proofs.Lays.n264 Tryz.prog Tryz.lays264_ren:={
 mixed:=by kernel_rfl
 f264:=Tryz.func325.trans (congrArg some (by kernel_rfl))
 t46:=nn348
 a46:=aa348
 z46:=zz348
 v46:=vv348
 t53:=nn260
 a53:=Tryz.isAgg260
 z53:=Tryz.sizeOf260
 v53:=vv260 }
end Go.Proofs
namespace Go.Sx
open Go Go.RowKit Go.Proofs
theorem mh {P:Program} {f:FuncId} {args:Array Value} {v:Value} {w:World} (h:Calls P f args w fun e w'=>e=.returned v∧w'=w):Calls P f args w (dh w v True) :=
 h.mono fun _ _ ⟨h1,h2⟩=>⟨h1,trivial,by rw [h2]; exact Below.refl _ _⟩
theorem tl_bs {n v:Nat} (h:v < 256 ^ n) (w0:World):Calls Tryz.prog 311 #[.string ⟨(bz n n v).toArray⟩,.string ⟨#[0]⟩] w0 (dh w0 (.string (bs v)) True):=by
 have:=mh (Any.strings_TrimLeft_one Tryz.lays161 ⟨(bz n n v).toArray⟩ 0 (by decide) w0)
 rw [← bz_trim h]
 exact this
theorem add64 (x y:Nat) (w:World):(callFunc 317 #[.int .u64 (x:Int),.int .u64 (y:Int),.int .u64 0]).run Tryz.prog w=.ok (.value (.tuple #[.int .u64 (((x+y) % 18446744073709551616:Nat):Int),.int .u64 (((x+y) / 18446744073709551616:Nat):Int)])) w:=by
 rw [run_callFunc_extern Tryz.func317 (by kernel_rfl) (by kernel_rfl) (by kernel_rfl) (e:=add64Entry) (by kernel_rfl),run_add64 (x:Int) (y:Int) 0 (by omega) (by omega) (by omega) (by omega)]
 simp only [Result.andThen]
 congr 5 <;> omega
theorem mul64 (x y:Nat) (hx:x < 18446744073709551616) (hy:y < 18446744073709551616) (w0:World):Calls Tryz.prog 325 #[.int .u64 (x:Int),.int .u64 (y:Int)] w0 (dh w0 (.tuple #[.int .u64 ((x*y / 18446744073709551616:Nat):Int),.int .u64 ((x*y % 18446744073709551616:Nat):Int)]) True):=mh (Any.bits_Mul64 Tryz.lays264 x y hx hy w0)
theorem wk (u:Nat) (hu:u < 18446744073709551616) (w0:World):Calls Tryz.prog 272 #[.int .u64 (u:Int)] w0 (dh w0 (.int .i64 ((Lib.bitLen u:Nat):Int)) True):=by
 have:=mh (Any.bits_Len64 Tryz.lays129 (u:Int) w0 (by omega) (by omega))
 rw [Int.toNat_natCast] at this; exact this
theorem mZ (a b:Nat) (w0:World):Calls Tryz.prog 271 #[.string (bs a),.string (bs b)] w0 (dh w0 (.int .i64 (Lib.compareBytes (bs a).data.toList (bs b).data.toList)) True):=mh (Any.strings_Compare Tryz.lays106 (bs a) (bs b) w0)
theorem lz32 (x:Nat) (hx:x < 4294967296) (w0:World):Calls Tryz.prog 276 #[.int .u32 (x:Int)] w0 (dh w0 (.int .i64 ((32 - Lib.bitLen x:Nat):Int)) True):=by
 have h1:=mh (Any.bits_LeadingZeros32 Tryz.lays133 (x:Int) w0 (by omega) (by omega))
 rw [Int.toNat_natCast] at h1
 have h2:Lib.bitLen x≤32:=Any.bitLen_le32 (x:Int) (by omega) (by omega)
 rw [show ((32 - Lib.bitLen x:Nat):Int)=32 - (Lib.bitLen x:Int) by omega]
 exact h1
theorem wl {n:Nat} (h:n < 4294967296):IntKind.u32.wrap (n:Int)=(n:Int):=by rw [IntKind.wrap_u32']; omega
end Go.Sx
