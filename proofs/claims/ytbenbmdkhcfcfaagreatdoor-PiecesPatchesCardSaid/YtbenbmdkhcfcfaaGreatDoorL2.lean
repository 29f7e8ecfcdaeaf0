import Derived.Test.YtbenbmdkhcfcfaaGreatDoorProg
import Derived.Test.YtbenbmdkhcfcfaaGreatDoorH1
set_option linter.unusedVariables false
set_option linter.unusedSimpArgs false
open Go.Proofs.Tryz renaming prog → zP, runUnderlying80 → uu80
namespace Go.Sx
open Go Go.RowKit Go.Proofs
set_option maxRecDepth 100000
set_option maxHeartbeats 40000000
attribute [local irreducible] Code.wp wpList Rd gW ObS Ent
attribute [local irreducible] an bB ah aO az c8
theorem sJ (w : World) : (method (Tryz.prog.types.size + Made.depth) 80 (.agg #[]) "Equal").run zP w = .ok (375, .agg #[]) w := kM (P := zP) (T := 80) Tryz.type80 (by kernel_rfl) uu80 w
instance zi43 : Mt zP 80 (.agg #[]) "Equal" 375 := ⟨sJ⟩
theorem rm (w : World) : (nilAhead (Tryz.prog.types.size + Made.depth) 80 (.agg #[]) "Equal").run zP w = .ok (some false) w := jn (P := zP) (T := 80) (f := 375) Tryz.type80 (by kernel_rfl) uu80 w
instance zi44 : Nl zP 80 (.agg #[]) "Equal" := ⟨rm⟩
theorem rz (w : World) : (method (Tryz.prog.types.size + Made.depth) 80 (.agg #[]) "Reduce").run zP w = .ok (376, .agg #[]) w := kM (P := zP) (T := 80) Tryz.type80 (by kernel_rfl) uu80 w
instance zi45 : Mt zP 80 (.agg #[]) "Reduce" 376 := ⟨rz⟩
theorem qu (w : World) : (nilAhead (Tryz.prog.types.size + Made.depth) 80 (.agg #[]) "Reduce").run zP w = .ok (some false) w := jn (P := zP) (T := 80) (f := 376) Tryz.type80 (by kernel_rfl) uu80 w
instance zi46 : Nl zP 80 (.agg #[]) "Reduce" := ⟨qu⟩
theorem t7 (w : World) : (method (Tryz.prog.types.size + Made.depth) 80 (.agg #[]) "Same").run zP w = .ok (278, .agg #[]) w := kM (P := zP) (T := 80) Tryz.type80 (by kernel_rfl) uu80 w
instance zi47 : Mt zP 80 (.agg #[]) "Same" 278 := ⟨t7⟩
theorem sF (w : World) : (nilAhead (Tryz.prog.types.size + Made.depth) 80 (.agg #[]) "Same").run zP w = .ok (some false) w := jn (P := zP) (T := 80) (f := 278) Tryz.type80 (by kernel_rfl) uu80 w
instance zi48 : Nl zP 80 (.agg #[]) "Same" := ⟨sF⟩
end Go.Sx
