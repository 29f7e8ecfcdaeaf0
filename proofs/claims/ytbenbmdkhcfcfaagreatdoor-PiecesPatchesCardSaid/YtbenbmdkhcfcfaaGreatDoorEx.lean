import Derived.Laws.Concat
import Derived.Test.YtbenbmdkhcfcfaaGreatDoorExt
import Derived.Test.YtbenbmdkhcfcfaaGreatDoorA7
set_option linter.unusedVariables false
set_option linter.unusedSimpArgs false
namespace Go.Proofs
open Go.Shelf
def Tryz.lays126_ren:Go.Shelf.Ren:=⟨fun | 126=>305 | n=>n,fun | 5=>5 | 3=>3 | 9=>9 | n=>n,fun | n=>n⟩
theorem Tryz.lays126:Go.Proofs.Lays.n126 Tryz.prog Tryz.lays126_ren:={
 mixed:=by kernel_rfl
 f126:=Tryz.func305.trans (congrArg some (by kernel_rfl))
 t3:=Tryz.underlying3
 a3:=Tryz.isAgg3
 z3:=Tryz.sizeOf3
 v3:=Tryz.zeroValue3
 t5:=Tryz.underlying5
 a5:=Tryz.isAgg5
 z5:=Tryz.sizeOf5
 v5:=Tryz.zeroValue5
 t9:=Tryz.underlying9
 a9:=Tryz.isAgg9
 z9:=Tryz.sizeOf9
 v9:=Tryz.zeroValue9 }
end Go.Proofs
namespace Go.Sx
open Go Go.RowKit Go.Proofs
theorem Len8_ct (u:Nat) (hu:u < 256) (w0:World):Calls Tryz.prog 305 #[.int .u8 (u:Int)] w0 (RetP w0 (.int .i64 ((Lib.bitLen u:Nat):Int)) True):=by
 have:=mK (Any.bits_Len8 Tryz.lays126 (u:Int) w0 og og)
 rw [Int.toNat_natCast] at this; exact this
section
variable {P:Program} {w0:World} {F:List (Nat×Value)}
theorem r_cat0 {t tt:TypeId} {x y:Operand} {m:Nat} (hx:ev F x=some (.string (bs m))) (hy:ev F y=some (.string (bs 0))) (hm:(bs m).size≤8388608):Rd P w0 F [] (.binOp .add t x y tt) (.string (bs m)):=by
 refine dQ fun o a w ho ha=>?_
 have h0:bs m++bs 0=bs m:=by
  have:bs 0=ByteArray.empty:=rfl
  rw [this,ByteArray.append_empty]
 have h1:(Op.stringOp .add (bs m) (bs 0)).run P w=.ok (.string (bs m)) w:=by
  rw [run_string_add w _ _ og (by show ((bs 0).size:Int)≤8388608; decide),h0]
 simp [execOp,ho,ha x _ hx,ha y _ hy,eqGuard_add,binOp_string_add,h1]
theorem r_catz {t tt:TypeId} {x y:Operand} {m z:Nat} (hz:z=0) (hx:ev F x=some (.string (bs m))) (hy:ev F y=some (.string (bs z))) (hm:(bs m).size≤8388608):Rd P w0 F [] (.binOp .add t x y tt) (.string (bs m)):=by
 subst hz
 exact r_cat0 hx hy hm
end
theorem vP {a:Nat} (h:0 < a∧a < 4):(bs a).size=1:=by
 obtain ⟨h0,h1⟩:=h
 have:a=1∨a=2∨a=3:=by omega
 rcases this with rfl | rfl | rfl <;> rfl
theorem wZ {a:Nat} (h:0 < a∧a < 4):topb a=a∧1≤Lib.bitLen (topb a)∧Lib.bitLen (topb a)≤2:=by
 obtain ⟨h0,h1⟩:=h
 have:a=1∨a=2∨a=3:=by omega
 rcases this with rfl | rfl | rfl <;> decide +kernel
theorem sn {a x:Nat} (h:0 < a∧a < 4) (hx:x=2∨x=1) (hc:decide (bq ((x+a / x) / 2) x≥0)=false):(x+a / x) / 2=2∨(x+a / x) / 2=1:=by
 obtain ⟨h0,h1⟩:=h
 have:a=1∨a=2∨a=3:=by omega
 rcases this with rfl | rfl | rfl <;> rcases hx with rfl | rfl <;> revert hc <;> decide +kernel
theorem root_sz {a x:Nat} (h:0 < a∧a < 4) (hx:x=2∨x=1) (hc:decide (bq ((x+a / x) / 2) x≥0)=false):SzB 29 ((x+a / x) / 2):=by
 rcases sn h hx hc with e | e <;> rw [e] <;> exact bJ _ DC DC
theorem root_lt {a x:Nat} (h:0 < a∧a < 4) (hx:x=2∨x=1) (hc:decide (bq ((x+a / x) / 2) x≥0)=false):(x+a / x) / 2 < x:=by
 obtain ⟨h0,h1⟩:=h
 have:a=1∨a=2∨a=3:=by omega
 rcases this with rfl | rfl | rfl <;> rcases hx with rfl | rfl <;> revert hc <;> decide +kernel
end Go.Sx
