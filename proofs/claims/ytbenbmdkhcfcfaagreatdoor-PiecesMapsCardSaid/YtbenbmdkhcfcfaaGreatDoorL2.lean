/- Part of piecesMaps. -/
import Derived.Test.YtbenbmdkhcfcfaaGreatDoorProg
import Derived.Test.YtbenbmdkhcfcfaaGreatDoorH1
set_option linter.unusedVariables false
set_option linter.unusedSimpArgs false
open Go.Proofs.Tryz renaming prog → zP, runUnderlying80 → uu80
namespace Go.Sx
open Go Go.RowKit Go.Proofs
set_option maxRecDepth 100000
set_option maxHeartbeats 40000000
attribute [local irreducible] Code.wp wpList Rd iq ObS Ent
attribute [local irreducible] ar bS ao aR aG cX
theorem sh (w : World) : (method (Tryz.prog.types.size + Made.depth) 80 (.agg #[]) "Equal").run zP w = .ok (375, .agg #[]) w := k8 (P := zP) (T := 80) Tryz.type80 (by kernel_rfl) uu80 w
instance zi901 : Mt zP 80 (.agg #[]) "Equal" 375 := ⟨sh⟩
theorem ra (w : World) : (nilAhead (Tryz.prog.types.size + Made.depth) 80 (.agg #[]) "Equal").run zP w = .ok (some false) w := ju (P := zP) (T := 80) (f := 375) Tryz.type80 (by kernel_rfl) uu80 w
instance zi902 : Nl zP 80 (.agg #[]) "Equal" := ⟨ra⟩
theorem ri (w : World) : (method (Tryz.prog.types.size + Made.depth) 80 (.agg #[]) "Reduce").run zP w = .ok (376, .agg #[]) w := k8 (P := zP) (T := 80) Tryz.type80 (by kernel_rfl) uu80 w
instance zi903 : Mt zP 80 (.agg #[]) "Reduce" 376 := ⟨ri⟩
theorem qo (w : World) : (nilAhead (Tryz.prog.types.size + Made.depth) 80 (.agg #[]) "Reduce").run zP w = .ok (some false) w := ju (P := zP) (T := 80) (f := 376) Tryz.type80 (by kernel_rfl) uu80 w
instance zi904 : Nl zP 80 (.agg #[]) "Reduce" := ⟨qo⟩
theorem tg (w : World) : (method (Tryz.prog.types.size + Made.depth) 80 (.agg #[]) "Same").run zP w = .ok (278, .agg #[]) w := k8 (P := zP) (T := 80) Tryz.type80 (by kernel_rfl) uu80 w
instance zi905 : Mt zP 80 (.agg #[]) "Same" 278 := ⟨tg⟩
theorem sd (w : World) : (nilAhead (Tryz.prog.types.size + Made.depth) 80 (.agg #[]) "Same").run zP w = .ok (some false) w := ju (P := zP) (T := 80) (f := 278) Tryz.type80 (by kernel_rfl) uu80 w
instance zi906 : Nl zP 80 (.agg #[]) "Same" := ⟨sd⟩
end Go.Sx
