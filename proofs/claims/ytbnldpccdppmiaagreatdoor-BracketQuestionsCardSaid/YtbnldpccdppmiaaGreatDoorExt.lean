/- A part of the proof that the law BracketQuestions/Checks answers true at every input and leaves its arguments as they were. -/
import Derived.Test.YtbnldpccdppmiaaGreatDoorProg
import Derived.Shelf.Strings.Trim
import Derived.Shelf.Small.Bits
import Derived.Shelf.Small.Strs
import Derived.Shelf.Bits.Mul64
import Derived.Laws.Externs
import Derived.Test.YtbnldpccdppmiaaGreatDoorA7
set_option linter.unusedVariables false
set_option linter.unusedSimpArgs false
open Go.Proofs.Tryz renaming underlying3 → nn3, isAgg3 → aa3, sizeOf3 → zz3, zeroValue3 → vv3, underlying4 → nn4, isAgg4 → aa4, sizeOf4 → zz4, zeroValue4 → vv4, underlying5 → nn5, isAgg5 → aa5, sizeOf5 → zz5, zeroValue5 → vv5, underlying9 → nn9, isAgg9 → aa9, sizeOf9 → zz9, zeroValue9 → vv9, underlying127 → nn127, isAgg127 → aa127, sizeOf127 → zz127, zeroValue127 → vv127, underlying113 → nn113, zeroValue113 → vv113
namespace Go.Proofs
open Go.Shelf
def Tryz.lays161_ren : Go.Shelf.Ren := ⟨fun | 161 => 143 | 231 => 148 | 227 => 149 | 233 => 150 | 235 => 151 | 228 => 159 | 197 => 160 | 151 => 161 | 260 => 166 | 152 => 167 | 137 => 170 | 119 => 171 | 224 => 172 | 225 => 173 | 217 => 174 | 266 => 175 | n => n, fun | 9 => 9 | 4 => 4 | 3 => 3 | 5 => 5 | 117 => 194 | 116 => 193 | 0 => 0 | 124 => 197 | 105 => 211 | 21 => 21 | 119 => 221 | 46 => 127 | 139 => 224 | 138 => 223 | n => n, fun | 3 => 1 | 4 => 2 | n => n⟩
theorem Tryz.lays161 : Go.Proofs.Lays.n161 Tryz.prog Tryz.lays161_ren := {
  mixed := by kernel_rfl
  f119 := Tryz.func171.trans (congrArg some (by kernel_rfl))
  f137 := Tryz.func170.trans (congrArg some (by kernel_rfl))
  f151 := Tryz.func161.trans (congrArg some (by kernel_rfl))
  f152 := Tryz.func167.trans (congrArg some (by kernel_rfl))
  f161 := Tryz.func143.trans (congrArg some (by kernel_rfl))
  f197 := Tryz.func160.trans (congrArg some (by kernel_rfl))
  f217 := Tryz.func174.trans (congrArg some (by kernel_rfl))
  f224 := Tryz.func172.trans (congrArg some (by kernel_rfl))
  f225 := Tryz.func173.trans (congrArg some (by kernel_rfl))
  f227 := Tryz.func149.trans (congrArg some (by kernel_rfl))
  f228 := Tryz.func159.trans (congrArg some (by kernel_rfl))
  f231 := Tryz.func148.trans (congrArg some (by kernel_rfl))
  f233 := Tryz.func150.trans (congrArg some (by kernel_rfl))
  f235 := Tryz.func151.trans (congrArg some (by kernel_rfl))
  f260 := Tryz.func166.trans (congrArg some (by kernel_rfl))
  f266 := Tryz.func175.trans (congrArg some (by kernel_rfl))
  t0 := Tryz.underlying0
  a0 := Tryz.isAgg0
  z0 := Tryz.sizeOf0
  v0 := Tryz.zeroValue0
  t3 := nn3
  a3 := aa3
  z3 := zz3
  v3 := vv3
  t4 := nn4
  a4 := aa4
  z4 := zz4
  v4 := vv4
  t5 := nn5
  a5 := aa5
  z5 := zz5
  v5 := vv5
  t9 := nn9
  a9 := aa9
  z9 := zz9
  v9 := vv9
  t21 := Tryz.underlying21
  a21 := Tryz.isAgg21
  z21 := Tryz.sizeOf21
  v21 := Tryz.zeroValue21
  t46 := nn127
  a46 := aa127
  z46 := zz127
  v46 := vv127
  t105 := Tryz.underlying211
  a105 := Tryz.isAgg211
  z105 := Tryz.sizeOf211
  v105 := Tryz.zeroValue211
  t116 := Tryz.underlying193
  a116 := Tryz.isAgg193
  z116 := Tryz.sizeOf193
  t117 := Tryz.underlying194
  a117 := Tryz.isAgg194
  z117 := Tryz.sizeOf194
  v117 := Tryz.zeroValue194
  t119 := Tryz.underlying221
  a119 := Tryz.isAgg221
  z119 := Tryz.sizeOf221
  t124 := Tryz.underlying197
  a124 := Tryz.isAgg197
  z124 := Tryz.sizeOf197
  v124 := Tryz.zeroValue197
  t138 := Tryz.underlying223
  a138 := Tryz.isAgg223
  z138 := Tryz.sizeOf223
  v138 := Tryz.zeroValue223
  t139 := Tryz.underlying224
  a139 := Tryz.isAgg224
  z139 := Tryz.sizeOf224
  v139 := Tryz.zeroValue224
  g3 := by kernel_rfl
  g4 := by kernel_rfl }
def Tryz.lays106_ren : Go.Shelf.Ren := ⟨fun | 106 => 139 | 213 => 147 | 265 => 158 | n => n, fun | 9 => 9 | 3 => 3 | n => n, fun | n => n⟩
theorem Tryz.lays106 : Go.Proofs.Lays.n106 Tryz.prog Tryz.lays106_ren := {
  mixed := by kernel_rfl
  f106 := Tryz.func139.trans (congrArg some (by kernel_rfl))
  f213 := Tryz.func147.trans (congrArg some (by kernel_rfl))
  f265 := Tryz.func158.trans (congrArg some (by kernel_rfl))
  t3 := nn3
  a3 := aa3
  z3 := zz3
  v3 := vv3
  t9 := nn9
  a9 := aa9
  z9 := zz9
  v9 := vv9 }
def Tryz.lays129_ren : Go.Shelf.Ren := ⟨fun | 129 => 96 | n => n, fun | 53 => 113 | 3 => 3 | 4 => 4 | 46 => 127 | 5 => 5 | 9 => 9 | n => n, fun | n => n⟩
theorem Tryz.lays129 : Go.Proofs.Lays.n129 Tryz.prog Tryz.lays129_ren := {
  mixed := by kernel_rfl
  f129 := Tryz.func96.trans (congrArg some (by kernel_rfl))
  t3 := nn3
  a3 := aa3
  z3 := zz3
  v3 := vv3
  t4 := nn4
  a4 := aa4
  z4 := zz4
  v4 := vv4
  t5 := nn5
  a5 := aa5
  z5 := zz5
  v5 := vv5
  t9 := nn9
  a9 := aa9
  z9 := zz9
  v9 := vv9
  t46 := nn127
  a46 := aa127
  z46 := zz127
  v46 := vv127
  t53 := nn113
  a53 := Tryz.isAgg113
  z53 := Tryz.sizeOf113
  v53 := vv113 }
def Tryz.lays133_ren : Go.Shelf.Ren := ⟨fun | 133 => 133 | 128 => 113 | n => n, fun | 51 => 150 | 3 => 3 | 4 => 4 | 46 => 127 | 5 => 5 | 9 => 9 | n => n, fun | n => n⟩
theorem Tryz.lays133 : Go.Proofs.Lays.n133 Tryz.prog Tryz.lays133_ren := {
  mixed := by kernel_rfl
  f128 := Tryz.func113.trans (congrArg some (by kernel_rfl))
  f133 := Tryz.func133.trans (congrArg some (by kernel_rfl))
  t3 := nn3
  a3 := aa3
  z3 := zz3
  v3 := vv3
  t4 := nn4
  a4 := aa4
  z4 := zz4
  v4 := vv4
  t5 := nn5
  a5 := aa5
  z5 := zz5
  v5 := vv5
  t9 := nn9
  a9 := aa9
  z9 := zz9
  v9 := vv9
  t46 := nn127
  a46 := aa127
  z46 := zz127
  v46 := vv127
  t51 := Tryz.underlying150
  a51 := Tryz.isAgg150
  z51 := Tryz.sizeOf150
  v51 := Tryz.zeroValue150 }
def Tryz.lays264_ren : Go.Shelf.Ren := ⟨fun | 264 => 140 | n => n, fun | 53 => 113 | 46 => 127 | n => n, fun | n => n⟩
theorem Tryz.lays264 : Go.Proofs.Lays.n264 Tryz.prog Tryz.lays264_ren := {
  mixed := by kernel_rfl
  f264 := Tryz.func140.trans (congrArg some (by kernel_rfl))
  t46 := nn127
  a46 := aa127
  z46 := zz127
  v46 := vv127
  t53 := nn113
  a53 := Tryz.isAgg113
  z53 := Tryz.sizeOf113
  v53 := vv113 }
end Go.Proofs
namespace Go.Sx
open Go Go.RowKit Go.Proofs
theorem iZ {P : Program} {f : FuncId} {args : Array Value} {v : Value} {w : World} (h : Calls P f args w fun e w' => e = .returned v ∧ w' = w) : Calls P f args w (RetP w v True) :=
  h.mono fun _ _ ⟨h1, h2⟩ => ⟨h1, trivial, by rw [h2]; exact Below.refl _ _⟩
theorem tl_bs {n v : Nat} (h : v < 256 ^ n) (w0 : World) : Calls Tryz.prog 143 #[.string ⟨(bz n n v).toArray⟩, .string ⟨#[0]⟩] w0 (RetP w0 (.string (bs v)) True) := by
  have := iZ (Any.strings_TrimLeft_one Tryz.lays161 ⟨(bz n n v).toArray⟩ 0 (by decide) w0)
  rw [← bz_trim h]
  exact this
theorem add64 (x y : Nat) (w : World) : (callFunc 137 #[.int .u64 (x : Int), .int .u64 (y : Int), .int .u64 0]).run Tryz.prog w = .ok (.value (.tuple #[.int .u64 (((x + y) % 18446744073709551616 : Nat) : Int), .int .u64 (((x + y) / 18446744073709551616 : Nat) : Int)])) w := by
  rw [run_callFunc_extern Tryz.func137 (by kernel_rfl) (by kernel_rfl) (by kernel_rfl) (e := add64Entry) (by kernel_rfl), run_add64 (x : Int) (y : Int) 0 (by omega) (by omega) (by omega) (by omega)]
  simp only [Result.andThen]
  congr 5 <;> omega
theorem mul64 (x y : Nat) (hx : x < 18446744073709551616) (hy : y < 18446744073709551616) (w0 : World) : Calls Tryz.prog 140 #[.int .u64 (x : Int), .int .u64 (y : Int)] w0 (RetP w0 (.tuple #[.int .u64 ((x * y / 18446744073709551616 : Nat) : Int), .int .u64 ((x * y % 18446744073709551616 : Nat) : Int)]) True) := iZ (Any.bits_Mul64 Tryz.lays264 x y hx hy w0)
theorem nO (u : Nat) (hu : u < 18446744073709551616) (w0 : World) : Calls Tryz.prog 96 #[.int .u64 (u : Int)] w0 (RetP w0 (.int .i64 ((Lib.bitLen u : Nat) : Int)) True) := by
  have := iZ (Any.bits_Len64 Tryz.lays129 (u : Int) w0 (by omega) (by omega))
  rw [Int.toNat_natCast] at this; exact this
theorem jo (a b : Nat) (w0 : World) : Calls Tryz.prog 139 #[.string (bs a), .string (bs b)] w0 (RetP w0 (.int .i64 (Lib.compareBytes (bs a).data.toList (bs b).data.toList)) True) := iZ (Any.strings_Compare Tryz.lays106 (bs a) (bs b) w0)
theorem lz32 (x : Nat) (hx : x < 4294967296) (w0 : World) : Calls Tryz.prog 133 #[.int .u32 (x : Int)] w0 (RetP w0 (.int .i64 ((32 - Lib.bitLen x : Nat) : Int)) True) := by
  have h1 := iZ (Any.bits_LeadingZeros32 Tryz.lays133 (x : Int) w0 (by omega) (by omega))
  rw [Int.toNat_natCast] at h1
  have h2 : Lib.bitLen x ≤ 32 := Any.bitLen_le32 (x : Int) (by omega) (by omega)
  rw [show ((32 - Lib.bitLen x : Nat) : Int) = 32 - (Lib.bitLen x : Int) by omega]
  exact h1
theorem nP {n : Nat} (h : n < 4294967296) : IntKind.u32.wrap (n : Int) = (n : Int) := by rw [IntKind.wrap_u32']; omega
end Go.Sx
