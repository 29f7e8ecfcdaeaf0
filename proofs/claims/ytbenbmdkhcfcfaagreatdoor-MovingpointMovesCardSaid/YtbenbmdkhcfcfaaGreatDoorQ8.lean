/- A part of the proof of movingpointMoves. -/
import Derived.Test.YtbenbmdkhcfcfaaGreatDoorQ7
set_option linter.unusedVariables false
set_option linter.unusedSimpArgs false
open Go.Proofs.Tryz renaming runUnderlying59 → uu59
namespace Go.Sx
open Go Go.RowKit Go.Proofs
set_option maxRecDepth 100000
set_option maxHeartbeats 40000000
attribute [local irreducible] Code.wp wpList Rd Step ObS Ent
attribute [local irreducible] ao aN ah aw ay bP
theorem qv (w : World) : (method (Tryz.prog.types.size + Made.depth) 59 (.agg #[]) "Equal").run Tryz.prog w = .ok (372, .agg #[]) w := jY (P := Tryz.prog) (T := 59) Tryz.type59 (by kernel_rfl) uu59 w
instance yQ8_1 : Mt Tryz.prog 59 (.agg #[]) "Equal" 372 := ⟨qv⟩
theorem o9 (w : World) : (nilAhead (Tryz.prog.types.size + Made.depth) 59 (.agg #[]) "Equal").run Tryz.prog w = .ok (some false) w := iH (P := Tryz.prog) (T := 59) (f := 372) Tryz.type59 (by kernel_rfl) uu59 w
instance yQ8_2 : Nl Tryz.prog 59 (.agg #[]) "Equal" := ⟨o9⟩
theorem pi (w : World) : (method (Tryz.prog.types.size + Made.depth) 59 (.agg #[]) "Reduce").run Tryz.prog w = .ok (373, .agg #[]) w := jY (P := Tryz.prog) (T := 59) Tryz.type59 (by kernel_rfl) uu59 w
instance yQ8_3 : Mt Tryz.prog 59 (.agg #[]) "Reduce" 373 := ⟨pi⟩
theorem nE (w : World) : (nilAhead (Tryz.prog.types.size + Made.depth) 59 (.agg #[]) "Reduce").run Tryz.prog w = .ok (some false) w := iH (P := Tryz.prog) (T := 59) (f := 373) Tryz.type59 (by kernel_rfl) uu59 w
instance yQ8_4 : Nl Tryz.prog 59 (.agg #[]) "Reduce" := ⟨nE⟩
theorem rR (w : World) : (method (Tryz.prog.types.size + Made.depth) 59 (.agg #[]) "Same").run Tryz.prog w = .ok (374, .agg #[]) w := jY (P := Tryz.prog) (T := 59) Tryz.type59 (by kernel_rfl) uu59 w
instance yQ8_5 : Mt Tryz.prog 59 (.agg #[]) "Same" 374 := ⟨rR⟩
theorem qr (w : World) : (nilAhead (Tryz.prog.types.size + Made.depth) 59 (.agg #[]) "Same").run Tryz.prog w = .ok (some false) w := iH (P := Tryz.prog) (T := 59) (f := 374) Tryz.type59 (by kernel_rfl) uu59 w
instance yQ8_6 : Nl Tryz.prog 59 (.agg #[]) "Same" := ⟨qr⟩
end Go.Sx
