/- A part of the proof of movingpointSamples. -/
import Derived.Test.YtbenbmdkhcfcfaaGreatDoorV8
set_option linter.unusedVariables false
set_option linter.unusedSimpArgs false
open Go.Proofs.Tryz renaming runUnderlying59 → uu59
namespace Go.Sx
open Go Go.RowKit Go.Proofs
set_option maxRecDepth 100000
set_option maxHeartbeats 40000000
attribute [local irreducible] Code.wp wpList Rd Step ObS Ent
attribute [local irreducible] aq aK ak au ay bA
theorem nF (w : World) : (method (Tryz.prog.types.size + Made.depth) 59 (.agg #[]) "Equal").run Tryz.prog w = .ok (372, .agg #[]) w := iu (P := Tryz.prog) (T := 59) Tryz.type59 (by kernel_rfl) uu59 w
instance yV9_1 : Mt Tryz.prog 59 (.agg #[]) "Equal" 372 := ⟨nF⟩
theorem mw (w : World) : (nilAhead (Tryz.prog.types.size + Made.depth) 59 (.agg #[]) "Equal").run Tryz.prog w = .ok (some false) w := fW (P := Tryz.prog) (T := 59) (f := 372) Tryz.type59 (by kernel_rfl) uu59 w
instance yV9_2 : Nl Tryz.prog 59 (.agg #[]) "Equal" := ⟨mw⟩
theorem mC (w : World) : (method (Tryz.prog.types.size + Made.depth) 59 (.agg #[]) "Reduce").run Tryz.prog w = .ok (373, .agg #[]) w := iu (P := Tryz.prog) (T := 59) Tryz.type59 (by kernel_rfl) uu59 w
instance yV9_3 : Mt Tryz.prog 59 (.agg #[]) "Reduce" 373 := ⟨mC⟩
theorem lm (w : World) : (nilAhead (Tryz.prog.types.size + Made.depth) 59 (.agg #[]) "Reduce").run Tryz.prog w = .ok (some false) w := fW (P := Tryz.prog) (T := 59) (f := 373) Tryz.type59 (by kernel_rfl) uu59 w
instance yV9_4 : Nl Tryz.prog 59 (.agg #[]) "Reduce" := ⟨lm⟩
theorem oW (w : World) : (method (Tryz.prog.types.size + Made.depth) 59 (.agg #[]) "Same").run Tryz.prog w = .ok (374, .agg #[]) w := iu (P := Tryz.prog) (T := 59) Tryz.type59 (by kernel_rfl) uu59 w
instance yV9_5 : Mt Tryz.prog 59 (.agg #[]) "Same" 374 := ⟨oW⟩
theorem nB (w : World) : (nilAhead (Tryz.prog.types.size + Made.depth) 59 (.agg #[]) "Same").run Tryz.prog w = .ok (some false) w := fW (P := Tryz.prog) (T := 59) (f := 374) Tryz.type59 (by kernel_rfl) uu59 w
instance yV9_6 : Nl Tryz.prog 59 (.agg #[]) "Same" := ⟨nB⟩
end Go.Sx
