/- A part of the proof that the law PiecesRefines answers true at every input and leaves its arguments as they were. -/
import Derived.Laws.Concat
import Derived.Test.YtnkaneggnjallaaGreatDoorA7
import Derived.Test.YtnkaneggnjallaaGreatDoorGarith
set_option linter.unusedVariables false
set_option linter.unusedSimpArgs false
open Go.Proofs.Tryz renaming sizeOf4 → zz4, sizeOf53 → zz53
namespace Go.Sx
open Go Go.RowKit Go.Proofs
set_option maxRecDepth 100000
set_option maxHeartbeats 40000000
attribute [local irreducible] ao bU aj az bE aP aE aA dG cj aQ
theorem qV : BuildF Tryz.prog 158 [.bool false, .string ⟨#[]⟩, .bool false, .string ⟨#[]⟩, .bool false, .string ⟨#[]⟩, .bool false, .string ⟨#[]⟩, .bool false, .bool false, .string ⟨#[]⟩, .bool false, .string ⟨#[]⟩, .bool false, .string ⟨#[]⟩, .bool false, .string ⟨#[]⟩, .bool false, .bool false, .bool false, .int .i64 0] [(0, 9), (9, 9), (18, 1), (19, 1), (20, 1)] := BuildF.of Tryz.zeroValue158 rfl Tryz.runUnderlying158 (by intro w; simp [Tryz.sizeOf3, zz4, zz53])
theorem qU : BuildF Tryz.prog 203 [.bool false, .string ⟨#[]⟩, .bool false, .string ⟨#[]⟩, .bool false, .string ⟨#[]⟩, .bool false, .string ⟨#[]⟩, .bool false, .bool false] [(0, 9), (9, 1)] := BuildF.of Tryz.zeroValue203 rfl Tryz.runUnderlying203 (by intro w; simp [zz4, zz53])
theorem qT : BuildF Tryz.prog 232 [.bool false, .string ⟨#[]⟩, .bool false, .string ⟨#[]⟩, .bool false, .string ⟨#[]⟩, .bool false, .string ⟨#[]⟩, .bool false, .bool false, .string ⟨#[]⟩, .bool false, .string ⟨#[]⟩, .bool false, .string ⟨#[]⟩, .bool false, .string ⟨#[]⟩, .bool false, .bool false, .bool false, .bool false, .string ⟨#[]⟩, .bool false, .string ⟨#[]⟩, .bool false, .string ⟨#[]⟩, .bool false, .string ⟨#[]⟩, .bool false, .string ⟨#[]⟩, .bool false, .string ⟨#[]⟩] [(0, 9), (9, 9), (18, 1), (19, 1), (20, 12)] := BuildF.of Tryz.zeroValue232 rfl Tryz.runUnderlying232 (by intro w; simp [zz4, zz53, Tryz.sizeOf69])
theorem bld31 : BuildF Tryz.prog 31 [] [] := BuildF.of Tryz.zeroValue31 rfl Tryz.runUnderlying31 (by intro w; simp)
theorem bld73 : BuildF Tryz.prog 73 [] [] := BuildF.of Tryz.zeroValue73 rfl Tryz.runUnderlying73 (by intro w; simp)
end Go.Sx
