/- A part of the proof that the law PiecesRefines answers true at every input and leaves its arguments as they were. -/
import Derived.Test.YtnkaneggnjallaaGreatDoorProg
import Derived.Shelf.Strings.Trim
import Derived.Shelf.Small.Bits
import Derived.Shelf.Small.Strs
import Derived.Shelf.Bits.Mul64
import Derived.Laws.Externs
import Derived.Test.YtnkaneggnjallaaGreatDoorA7
set_option linter.unusedVariables false
set_option linter.unusedSimpArgs false
open Go.Proofs.Tryz renaming underlying3 → nn3, isAgg3 → aa3, sizeOf3 → zz3, zeroValue3 → vv3, underlying4 → nn4, isAgg4 → aa4, sizeOf4 → zz4, zeroValue4 → vv4, underlying5 → nn5, isAgg5 → aa5, sizeOf5 → zz5, zeroValue5 → vv5, underlying9 → nn9, isAgg9 → aa9, sizeOf9 → zz9, zeroValue9 → vv9, underlying251 → nn251, isAgg251 → aa251, sizeOf251 → zz251, zeroValue251 → vv251, underlying234 → nn234, zeroValue234 → vv234
namespace Go.Proofs
open Go.Shelf
def Tryz.lays161_ren : Go.Shelf.Ren := ⟨fun | 161 => 242 | 231 => 253 | 227 => 254 | 233 => 255 | 235 => 256 | 228 => 262 | 197 => 263 | 151 => 264 | 260 => 271 | 152 => 272 | 137 => 277 | 119 => 278 | 224 => 279 | 225 => 280 | 217 => 283 | 266 => 284 | n => n, fun | 9 => 9 | 4 => 4 | 3 => 3 | 5 => 5 | 117 => 324 | 116 => 323 | 0 => 0 | 124 => 327 | 105 => 334 | 21 => 21 | 119 => 353 | 46 => 251 | 139 => 356 | 138 => 355 | n => n, fun | 3 => 1 | 4 => 2 | n => n⟩
theorem Tryz.lays161 : Go.Proofs.Lays.n161 Tryz.prog Tryz.lays161_ren := {
  mixed := by kernel_rfl
  f119 := Tryz.func278.trans (congrArg some (by kernel_rfl))
  f137 := Tryz.func277.trans (congrArg some (by kernel_rfl))
  f151 := Tryz.func264.trans (congrArg some (by kernel_rfl))
  f152 := Tryz.func272.trans (congrArg some (by kernel_rfl))
  f161 := Tryz.func242.trans (congrArg some (by kernel_rfl))
  f197 := Tryz.func263.trans (congrArg some (by kernel_rfl))
  f217 := Tryz.func283.trans (congrArg some (by kernel_rfl))
  f224 := Tryz.func279.trans (congrArg some (by kernel_rfl))
  f225 := Tryz.func280.trans (congrArg some (by kernel_rfl))
  f227 := Tryz.func254.trans (congrArg some (by kernel_rfl))
  f228 := Tryz.func262.trans (congrArg some (by kernel_rfl))
  f231 := Tryz.func253.trans (congrArg some (by kernel_rfl))
  f233 := Tryz.func255.trans (congrArg some (by kernel_rfl))
  f235 := Tryz.func256.trans (congrArg some (by kernel_rfl))
  f260 := Tryz.func271.trans (congrArg some (by kernel_rfl))
  f266 := Tryz.func284.trans (congrArg some (by kernel_rfl))
  t0 := Tryz.underlying0
  a0 := Tryz.isAgg0
  z0 := Tryz.sizeOf0
  v0 := Tryz.zeroValue0
  t3 := nn3
  a3 := aa3
  z3 := zz3
  v3 := vv3
  t4 := nn4
  a4 := aa4
  z4 := zz4
  v4 := vv4
  t5 := nn5
  a5 := aa5
  z5 := zz5
  v5 := vv5
  t9 := nn9
  a9 := aa9
  z9 := zz9
  v9 := vv9
  t21 := Tryz.underlying21
  a21 := Tryz.isAgg21
  z21 := Tryz.sizeOf21
  v21 := Tryz.zeroValue21
  t46 := nn251
  a46 := aa251
  z46 := zz251
  v46 := vv251
  t105 := Tryz.underlying334
  a105 := Tryz.isAgg334
  z105 := Tryz.sizeOf334
  v105 := Tryz.zeroValue334
  t116 := Tryz.underlying323
  a116 := Tryz.isAgg323
  z116 := Tryz.sizeOf323
  t117 := Tryz.underlying324
  a117 := Tryz.isAgg324
  z117 := Tryz.sizeOf324
  v117 := Tryz.zeroValue324
  t119 := Tryz.underlying353
  a119 := Tryz.isAgg353
  z119 := Tryz.sizeOf353
  t124 := Tryz.underlying327
  a124 := Tryz.isAgg327
  z124 := Tryz.sizeOf327
  v124 := Tryz.zeroValue327
  t138 := Tryz.underlying355
  a138 := Tryz.isAgg355
  z138 := Tryz.sizeOf355
  v138 := Tryz.zeroValue355
  t139 := Tryz.underlying356
  a139 := Tryz.isAgg356
  z139 := Tryz.sizeOf356
  v139 := Tryz.zeroValue356
  g3 := by kernel_rfl
  g4 := by kernel_rfl }
def Tryz.lays106_ren : Go.Shelf.Ren := ⟨fun | 106 => 217 | 213 => 243 | 265 => 257 | n => n, fun | 9 => 9 | 3 => 3 | n => n, fun | n => n⟩
theorem Tryz.lays106 : Go.Proofs.Lays.n106 Tryz.prog Tryz.lays106_ren := {
  mixed := by kernel_rfl
  f106 := Tryz.func217.trans (congrArg some (by kernel_rfl))
  f213 := Tryz.func243.trans (congrArg some (by kernel_rfl))
  f265 := Tryz.func257.trans (congrArg some (by kernel_rfl))
  t3 := nn3
  a3 := aa3
  z3 := zz3
  v3 := vv3
  t9 := nn9
  a9 := aa9
  z9 := zz9
  v9 := vv9 }
def Tryz.lays129_ren : Go.Shelf.Ren := ⟨fun | 129 => 197 | n => n, fun | 53 => 234 | 3 => 3 | 4 => 4 | 46 => 251 | 5 => 5 | 9 => 9 | n => n, fun | n => n⟩
theorem Tryz.lays129 : Go.Proofs.Lays.n129 Tryz.prog Tryz.lays129_ren := {
  mixed := by kernel_rfl
  f129 := Tryz.func197.trans (congrArg some (by kernel_rfl))
  t3 := nn3
  a3 := aa3
  z3 := zz3
  v3 := vv3
  t4 := nn4
  a4 := aa4
  z4 := zz4
  v4 := vv4
  t5 := nn5
  a5 := aa5
  z5 := zz5
  v5 := vv5
  t9 := nn9
  a9 := aa9
  z9 := zz9
  v9 := vv9
  t46 := nn251
  a46 := aa251
  z46 := zz251
  v46 := vv251
  t53 := nn234
  a53 := Tryz.isAgg234
  z53 := Tryz.sizeOf234
  v53 := vv234 }
def Tryz.lays133_ren : Go.Shelf.Ren := ⟨fun | 133 => 220 | 128 => 233 | n => n, fun | 51 => 291 | 3 => 3 | 4 => 4 | 46 => 251 | 5 => 5 | 9 => 9 | n => n, fun | n => n⟩
theorem Tryz.lays133 : Go.Proofs.Lays.n133 Tryz.prog Tryz.lays133_ren := {
  mixed := by kernel_rfl
  f128 := Tryz.func233.trans (congrArg some (by kernel_rfl))
  f133 := Tryz.func220.trans (congrArg some (by kernel_rfl))
  t3 := nn3
  a3 := aa3
  z3 := zz3
  v3 := vv3
  t4 := nn4
  a4 := aa4
  z4 := zz4
  v4 := vv4
  t5 := nn5
  a5 := aa5
  z5 := zz5
  v5 := vv5
  t9 := nn9
  a9 := aa9
  z9 := zz9
  v9 := vv9
  t46 := nn251
  a46 := aa251
  z46 := zz251
  v46 := vv251
  t51 := Tryz.underlying291
  a51 := Tryz.isAgg291
  z51 := Tryz.sizeOf291
  v51 := Tryz.zeroValue291 }
def Tryz.lays264_ren : Go.Shelf.Ren := ⟨fun | 264 => 213 | n => n, fun | 53 => 234 | 46 => 251 | n => n, fun | n => n⟩
theorem Tryz.lays264 : Go.Proofs.Lays.n264 Tryz.prog Tryz.lays264_ren := {
  mixed := by kernel_rfl
  f264 := Tryz.func213.trans (congrArg some (by kernel_rfl))
  t46 := nn251
  a46 := aa251
  z46 := zz251
  v46 := vv251
  t53 := nn234
  a53 := Tryz.isAgg234
  z53 := Tryz.sizeOf234
  v53 := vv234 }
end Go.Proofs
namespace Go.Sx
open Go Go.RowKit Go.Proofs
theorem jS {P : Program} {f : FuncId} {args : Array Value} {v : Value} {w : World} (h : Calls P f args w fun e w' => e = .returned v ∧ w' = w) : Calls P f args w (eE w v True) :=
  h.mono fun _ _ ⟨h1, h2⟩ => ⟨h1, trivial, by rw [h2]; exact Below.refl _ _⟩
theorem tl_bs {n v : Nat} (h : v < 256 ^ n) (w0 : World) : Calls Tryz.prog 242 #[.string ⟨(bz n n v).toArray⟩, .string ⟨#[0]⟩] w0 (eE w0 (.string (bs v)) True) := by
  have := jS (Any.strings_TrimLeft_one Tryz.lays161 ⟨(bz n n v).toArray⟩ 0 (by decide) w0)
  rw [← bz_trim h]
  exact this
theorem add64 (x y : Nat) (w : World) : (callFunc 216 #[.int .u64 (x : Int), .int .u64 (y : Int), .int .u64 0]).run Tryz.prog w = .ok (.value (.tuple #[.int .u64 (((x + y) % 18446744073709551616 : Nat) : Int), .int .u64 (((x + y) / 18446744073709551616 : Nat) : Int)])) w := by
  rw [run_callFunc_extern Tryz.func216 (by kernel_rfl) (by kernel_rfl) (by kernel_rfl) (e := add64Entry) (by kernel_rfl), run_add64 (x : Int) (y : Int) 0 (by omega) (by omega) (by omega) (by omega)]
  simp only [Result.andThen]
  congr 5 <;> omega
theorem mul64 (x y : Nat) (hx : x < 18446744073709551616) (hy : y < 18446744073709551616) (w0 : World) : Calls Tryz.prog 213 #[.int .u64 (x : Int), .int .u64 (y : Int)] w0 (eE w0 (.tuple #[.int .u64 ((x * y / 18446744073709551616 : Nat) : Int), .int .u64 ((x * y % 18446744073709551616 : Nat) : Int)]) True) := jS (Any.bits_Mul64 Tryz.lays264 x y hx hy w0)
theorem oU (u : Nat) (hu : u < 18446744073709551616) (w0 : World) : Calls Tryz.prog 197 #[.int .u64 (u : Int)] w0 (eE w0 (.int .i64 ((Lib.bitLen u : Nat) : Int)) True) := by
  have := jS (Any.bits_Len64 Tryz.lays129 (u : Int) w0 (by omega) (by omega))
  rw [Int.toNat_natCast] at this; exact this
theorem jN (a b : Nat) (w0 : World) : Calls Tryz.prog 217 #[.string (bs a), .string (bs b)] w0 (eE w0 (.int .i64 (Lib.compareBytes (bs a).data.toList (bs b).data.toList)) True) := jS (Any.strings_Compare Tryz.lays106 (bs a) (bs b) w0)
theorem lz32 (x : Nat) (hx : x < 4294967296) (w0 : World) : Calls Tryz.prog 220 #[.int .u32 (x : Int)] w0 (eE w0 (.int .i64 ((32 - Lib.bitLen x : Nat) : Int)) True) := by
  have h1 := jS (Any.bits_LeadingZeros32 Tryz.lays133 (x : Int) w0 (by omega) (by omega))
  rw [Int.toNat_natCast] at h1
  have h2 : Lib.bitLen x ≤ 32 := Any.bitLen_le32 (x : Int) (by omega) (by omega)
  rw [show ((32 - Lib.bitLen x : Nat) : Int) = 32 - (Lib.bitLen x : Int) by omega]
  exact h1
theorem oV {n : Nat} (h : n < 4294967296) : IntKind.u32.wrap (n : Int) = (n : Int) := by rw [IntKind.wrap_u32']; omega
end Go.Sx
