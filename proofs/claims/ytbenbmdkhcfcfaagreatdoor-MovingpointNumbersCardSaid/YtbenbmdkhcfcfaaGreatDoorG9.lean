/- A part of the proof of movingpointNumbers. -/
import Derived.Test.YtbenbmdkhcfcfaaGreatDoorG8
set_option linter.unusedVariables false
set_option linter.unusedSimpArgs false
open Go.Proofs.Tryz renaming runUnderlying59 → uu59
namespace Go.Sx
open Go Go.RowKit Go.Proofs
set_option maxRecDepth 100000
set_option maxHeartbeats 40000000
attribute [local irreducible] Code.wp wpList Rd Step ObS Ent
attribute [local irreducible] ap aN ak au aA bO
theorem rq (w : World) : (method (Tryz.prog.types.size + Made.depth) 59 (.agg #[]) "Equal").run Tryz.prog w = .ok (372, .agg #[]) w := lR (P := Tryz.prog) (T := 59) Tryz.type59 (by kernel_rfl) uu59 w
instance : Mt Tryz.prog 59 (.agg #[]) "Equal" 372 := ⟨rq⟩
theorem qm (w : World) : (nilAhead (Tryz.prog.types.size + Made.depth) 59 (.agg #[]) "Equal").run Tryz.prog w = .ok (some false) w := j0 (P := Tryz.prog) (T := 59) (f := 372) Tryz.type59 (by kernel_rfl) uu59 w
instance : Nl Tryz.prog 59 (.agg #[]) "Equal" := ⟨qm⟩
theorem qs (w : World) : (method (Tryz.prog.types.size + Made.depth) 59 (.agg #[]) "Reduce").run Tryz.prog w = .ok (373, .agg #[]) w := lR (P := Tryz.prog) (T := 59) Tryz.type59 (by kernel_rfl) uu59 w
instance : Mt Tryz.prog 59 (.agg #[]) "Reduce" 373 := ⟨qs⟩
theorem o7 (w : World) : (nilAhead (Tryz.prog.types.size + Made.depth) 59 (.agg #[]) "Reduce").run Tryz.prog w = .ok (some false) w := j0 (P := Tryz.prog) (T := 59) (f := 373) Tryz.type59 (by kernel_rfl) uu59 w
instance : Nl Tryz.prog 59 (.agg #[]) "Reduce" := ⟨o7⟩
theorem sM (w : World) : (method (Tryz.prog.types.size + Made.depth) 59 (.agg #[]) "Same").run Tryz.prog w = .ok (374, .agg #[]) w := lR (P := Tryz.prog) (T := 59) Tryz.type59 (by kernel_rfl) uu59 w
instance : Mt Tryz.prog 59 (.agg #[]) "Same" 374 := ⟨sM⟩
theorem rm (w : World) : (nilAhead (Tryz.prog.types.size + Made.depth) 59 (.agg #[]) "Same").run Tryz.prog w = .ok (some false) w := j0 (P := Tryz.prog) (T := 59) (f := 374) Tryz.type59 (by kernel_rfl) uu59 w
instance : Nl Tryz.prog 59 (.agg #[]) "Same" := ⟨rm⟩
end Go.Sx
