/- A part of the proof of movingpointChecks. -/
import Derived.Test.YtbenbmdkhcfcfaaGreatDoorProg
import Derived.Shelf.Strings.Trim
import Derived.Shelf.Small.Bits
import Derived.Shelf.Small.Strs
import Derived.Shelf.Bits.Mul64
import Derived.Laws.Externs
import Derived.Test.YtbenbmdkhcfcfaaGreatDoorH1
set_option linter.unusedVariables false
set_option linter.unusedSimpArgs false
open Go.Proofs.Tryz renaming isAgg3 → aa3, sizeOf3 → zz3, zeroValue3 → vv3, underlying4 → nn4, isAgg4 → aa4, sizeOf4 → zz4, zeroValue4 → vv4, underlying5 → nn5, isAgg5 → aa5, sizeOf5 → zz5, zeroValue5 → vv5, underlying9 → nn9, isAgg9 → aa9, sizeOf9 → zz9, zeroValue9 → vv9, underlying276 → nn276, isAgg276 → aa276, sizeOf276 → zz276, zeroValue276 → vv276, underlying254 → nn254, zeroValue254 → vv254
namespace Go.Proofs
open Go.Shelf
def Tryz.lays161_ren : Go.Shelf.Ren := ⟨fun | 161 => 288 | 231 => 307 | 227 => 308 | 233 => 309 | 235 => 310 | 228 => 328 | 197 => 329 | 151 => 330 | 260 => 339 | 152 => 340 | 137 => 345 | 119 => 346 | 224 => 347 | 225 => 348 | 217 => 349 | 266 => 350 | n => n, fun | 9 => 9 | 4 => 4 | 3 => 3 | 5 => 5 | 117 => 385 | 116 => 384 | 0 => 0 | 124 => 388 | 105 => 412 | 21 => 21 | 119 => 425 | 46 => 276 | 139 => 428 | 138 => 427 | n => n, fun | 3 => 1 | 4 => 2 | n => n⟩
theorem Tryz.lays161 : Go.Proofs.Lays.n161 Tryz.prog Tryz.lays161_ren := {
  mixed := by kernel_rfl
  f119 := Tryz.func346.trans (congrArg some (by kernel_rfl))
  f137 := Tryz.func345.trans (congrArg some (by kernel_rfl))
  f151 := Tryz.func330.trans (congrArg some (by kernel_rfl))
  f152 := Tryz.func340.trans (congrArg some (by kernel_rfl))
  f161 := Tryz.func288.trans (congrArg some (by kernel_rfl))
  f197 := Tryz.func329.trans (congrArg some (by kernel_rfl))
  f217 := Tryz.func349.trans (congrArg some (by kernel_rfl))
  f224 := Tryz.func347.trans (congrArg some (by kernel_rfl))
  f225 := Tryz.func348.trans (congrArg some (by kernel_rfl))
  f227 := Tryz.func308.trans (congrArg some (by kernel_rfl))
  f228 := Tryz.func328.trans (congrArg some (by kernel_rfl))
  f231 := Tryz.func307.trans (congrArg some (by kernel_rfl))
  f233 := Tryz.func309.trans (congrArg some (by kernel_rfl))
  f235 := Tryz.func310.trans (congrArg some (by kernel_rfl))
  f260 := Tryz.func339.trans (congrArg some (by kernel_rfl))
  f266 := Tryz.func350.trans (congrArg some (by kernel_rfl))
  t0 := Tryz.underlying0
  a0 := Tryz.isAgg0
  z0 := Tryz.sizeOf0
  v0 := Tryz.zeroValue0
  t3 := Tryz.underlying3
  a3 := aa3
  z3 := zz3
  v3 := vv3
  t4 := nn4
  a4 := aa4
  z4 := zz4
  v4 := vv4
  t5 := nn5
  a5 := aa5
  z5 := zz5
  v5 := vv5
  t9 := nn9
  a9 := aa9
  z9 := zz9
  v9 := vv9
  t21 := Tryz.underlying21
  a21 := Tryz.isAgg21
  z21 := Tryz.sizeOf21
  v21 := Tryz.zeroValue21
  t46 := nn276
  a46 := aa276
  z46 := zz276
  v46 := vv276
  t105 := Tryz.underlying412
  a105 := Tryz.isAgg412
  z105 := Tryz.sizeOf412
  v105 := Tryz.zeroValue412
  t116 := Tryz.underlying384
  a116 := Tryz.isAgg384
  z116 := Tryz.sizeOf384
  t117 := Tryz.underlying385
  a117 := Tryz.isAgg385
  z117 := Tryz.sizeOf385
  v117 := Tryz.zeroValue385
  t119 := Tryz.underlying425
  a119 := Tryz.isAgg425
  z119 := Tryz.sizeOf425
  t124 := Tryz.underlying388
  a124 := Tryz.isAgg388
  z124 := Tryz.sizeOf388
  v124 := Tryz.zeroValue388
  t138 := Tryz.underlying427
  a138 := Tryz.isAgg427
  z138 := Tryz.sizeOf427
  v138 := Tryz.zeroValue427
  t139 := Tryz.underlying428
  a139 := Tryz.isAgg428
  z139 := Tryz.sizeOf428
  v139 := Tryz.zeroValue428
  g3 := by kernel_rfl
  g4 := by kernel_rfl }
def Tryz.lays106_ren : Go.Shelf.Ren := ⟨fun | 106 => 259 | 213 => 289 | 265 => 311 | n => n, fun | 9 => 9 | 3 => 3 | n => n, fun | n => n⟩
theorem Tryz.lays106 : Go.Proofs.Lays.n106 Tryz.prog Tryz.lays106_ren := {
  mixed := by kernel_rfl
  f106 := Tryz.func259.trans (congrArg some (by kernel_rfl))
  f213 := Tryz.func289.trans (congrArg some (by kernel_rfl))
  f265 := Tryz.func311.trans (congrArg some (by kernel_rfl))
  t3 := Tryz.underlying3
  a3 := aa3
  z3 := zz3
  v3 := vv3
  t9 := nn9
  a9 := aa9
  z9 := zz9
  v9 := vv9 }
def Tryz.lays129_ren : Go.Shelf.Ren := ⟨fun | 129 => 255 | n => n, fun | 53 => 254 | 3 => 3 | 4 => 4 | 46 => 276 | 5 => 5 | 9 => 9 | n => n, fun | n => n⟩
theorem Tryz.lays129 : Go.Proofs.Lays.n129 Tryz.prog Tryz.lays129_ren := {
  mixed := by kernel_rfl
  f129 := Tryz.func255.trans (congrArg some (by kernel_rfl))
  t3 := Tryz.underlying3
  a3 := aa3
  z3 := zz3
  v3 := vv3
  t4 := nn4
  a4 := aa4
  z4 := zz4
  v4 := vv4
  t5 := nn5
  a5 := aa5
  z5 := zz5
  v5 := vv5
  t9 := nn9
  a9 := aa9
  z9 := zz9
  v9 := vv9
  t46 := nn276
  a46 := aa276
  z46 := zz276
  v46 := vv276
  t53 := nn254
  a53 := Tryz.isAgg254
  z53 := Tryz.sizeOf254
  v53 := vv254 }
def Tryz.lays133_ren : Go.Shelf.Ren := ⟨fun | 133 => 282 | 128 => 296 | n => n, fun | 51 => 341 | 3 => 3 | 4 => 4 | 46 => 276 | 5 => 5 | 9 => 9 | n => n, fun | n => n⟩
theorem Tryz.lays133 : Go.Proofs.Lays.n133 Tryz.prog Tryz.lays133_ren := {
  mixed := by kernel_rfl
  f128 := Tryz.func296.trans (congrArg some (by kernel_rfl))
  f133 := Tryz.func282.trans (congrArg some (by kernel_rfl))
  t3 := Tryz.underlying3
  a3 := aa3
  z3 := zz3
  v3 := vv3
  t4 := nn4
  a4 := aa4
  z4 := zz4
  v4 := vv4
  t5 := nn5
  a5 := aa5
  z5 := zz5
  v5 := vv5
  t9 := nn9
  a9 := aa9
  z9 := zz9
  v9 := vv9
  t46 := nn276
  a46 := aa276
  z46 := zz276
  v46 := vv276
  t51 := Tryz.underlying341
  a51 := Tryz.isAgg341
  z51 := Tryz.sizeOf341
  v51 := Tryz.zeroValue341 }
def Tryz.lays264_ren : Go.Shelf.Ren := ⟨fun | 264 => 260 | n => n, fun | 53 => 254 | 46 => 276 | n => n, fun | n => n⟩
theorem Tryz.lays264 : Go.Proofs.Lays.n264 Tryz.prog Tryz.lays264_ren := {
  mixed := by kernel_rfl
  f264 := Tryz.func260.trans (congrArg some (by kernel_rfl))
  t46 := nn276
  a46 := aa276
  z46 := zz276
  v46 := vv276
  t53 := nn254
  a53 := Tryz.isAgg254
  z53 := Tryz.sizeOf254
  v53 := vv254 }
end Go.Proofs
namespace Go.Sx
open Go Go.RowKit Go.Proofs
theorem i3 {P : Program} {f : FuncId} {args : Array Value} {v : Value} {w : World} (h : Calls P f args w fun e w' => e = .returned v ∧ w' = w) : Calls P f args w (cq w v True) :=
  h.mono fun _ _ ⟨h1, h2⟩ => ⟨h1, trivial, by rw [h2]; exact Below.refl _ _⟩
theorem tl_bs {n v : Nat} (h : v < 256 ^ n) (w0 : World) : Calls Tryz.prog 288 #[.string ⟨(bz n n v).toArray⟩, .string ⟨#[0]⟩] w0 (cq w0 (.string (bs v)) True) := by
  have := i3 (Any.strings_TrimLeft_one Tryz.lays161 ⟨(bz n n v).toArray⟩ 0 (by decide) w0)
  rw [← bz_trim h]
  exact this
theorem add64 (x y : Nat) (w : World) : (callFunc 256 #[.int .u64 (x : Int), .int .u64 (y : Int), .int .u64 0]).run Tryz.prog w = .ok (.value (.tuple #[.int .u64 (((x + y) % 18446744073709551616 : Nat) : Int), .int .u64 (((x + y) / 18446744073709551616 : Nat) : Int)])) w := by
  rw [run_callFunc_extern Tryz.func256 (by kernel_rfl) (by kernel_rfl) (by kernel_rfl) (e := add64Entry) (by kernel_rfl), run_add64 (x : Int) (y : Int) 0 (by omega) (by omega) (by omega) (by omega)]
  simp only [Result.andThen]
  congr 5 <;> omega
theorem mul64 (x y : Nat) (hx : x < 18446744073709551616) (hy : y < 18446744073709551616) (w0 : World) : Calls Tryz.prog 260 #[.int .u64 (x : Int), .int .u64 (y : Int)] w0 (cq w0 (.tuple #[.int .u64 ((x * y / 18446744073709551616 : Nat) : Int), .int .u64 ((x * y % 18446744073709551616 : Nat) : Int)]) True) := i3 (Any.bits_Mul64 Tryz.lays264 x y hx hy w0)
theorem Len64_ct (u : Nat) (hu : u < 18446744073709551616) (w0 : World) : Calls Tryz.prog 255 #[.int .u64 (u : Int)] w0 (cq w0 (.int .i64 ((Lib.bitLen u : Nat) : Int)) True) := by
  have := i3 (Any.bits_Len64 Tryz.lays129 (u : Int) w0 (by omega) (by omega))
  rw [Int.toNat_natCast] at this; exact this
theorem ju (a b : Nat) (w0 : World) : Calls Tryz.prog 259 #[.string (bs a), .string (bs b)] w0 (cq w0 (.int .i64 (Lib.compareBytes (bs a).data.toList (bs b).data.toList)) True) := i3 (Any.strings_Compare Tryz.lays106 (bs a) (bs b) w0)
theorem lz32 (x : Nat) (hx : x < 4294967296) (w0 : World) : Calls Tryz.prog 282 #[.int .u32 (x : Int)] w0 (cq w0 (.int .i64 ((32 - Lib.bitLen x : Nat) : Int)) True) := by
  have h1 := i3 (Any.bits_LeadingZeros32 Tryz.lays133 (x : Int) w0 (by omega) (by omega))
  rw [Int.toNat_natCast] at h1
  have h2 : Lib.bitLen x ≤ 32 := Any.bitLen_le32 (x : Int) (by omega) (by omega)
  rw [show ((32 - Lib.bitLen x : Nat) : Int) = 32 - (Lib.bitLen x : Int) by omega]
  exact h1
theorem qM {n : Nat} (h : n < 4294967296) : IntKind.u32.wrap (n : Int) = (n : Int) := by rw [IntKind.wrap_u32']; omega
end Go.Sx
