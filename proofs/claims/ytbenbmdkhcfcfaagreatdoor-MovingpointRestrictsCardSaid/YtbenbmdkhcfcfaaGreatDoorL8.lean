/- A part of the proof of movingpointRestricts. -/
import Derived.Test.YtbenbmdkhcfcfaaGreatDoorL7
set_option linter.unusedVariables false
set_option linter.unusedSimpArgs false
open Go.Proofs.Tryz renaming runUnderlying59 → uu59
namespace Go.Sx
open Go Go.RowKit Go.Proofs
set_option maxRecDepth 100000
set_option maxHeartbeats 40000000
attribute [local irreducible] Code.wp wpList Rd Step ObS Ent
attribute [local irreducible] am aQ ah aw aD bU
theorem qo (w : World) : (method (Tryz.prog.types.size + Made.depth) 59 (.agg #[]) "Equal").run Tryz.prog w = .ok (372, .agg #[]) w := jM (P := Tryz.prog) (T := 59) Tryz.type59 (by kernel_rfl) uu59 w
instance yL8_1 : Mt Tryz.prog 59 (.agg #[]) "Equal" 372 := ⟨qo⟩
theorem oS (w : World) : (nilAhead (Tryz.prog.types.size + Made.depth) 59 (.agg #[]) "Equal").run Tryz.prog w = .ok (some false) w := iz (P := Tryz.prog) (T := 59) (f := 372) Tryz.type59 (by kernel_rfl) uu59 w
instance yL8_2 : Nl Tryz.prog 59 (.agg #[]) "Equal" := ⟨oS⟩
theorem oZ (w : World) : (method (Tryz.prog.types.size + Made.depth) 59 (.agg #[]) "Reduce").run Tryz.prog w = .ok (373, .agg #[]) w := jM (P := Tryz.prog) (T := 59) Tryz.type59 (by kernel_rfl) uu59 w
instance yL8_3 : Mt Tryz.prog 59 (.agg #[]) "Reduce" 373 := ⟨oZ⟩
theorem nt (w : World) : (nilAhead (Tryz.prog.types.size + Made.depth) 59 (.agg #[]) "Reduce").run Tryz.prog w = .ok (some false) w := iz (P := Tryz.prog) (T := 59) (f := 373) Tryz.type59 (by kernel_rfl) uu59 w
instance yL8_4 : Nl Tryz.prog 59 (.agg #[]) "Reduce" := ⟨nt⟩
theorem ry (w : World) : (method (Tryz.prog.types.size + Made.depth) 59 (.agg #[]) "Same").run Tryz.prog w = .ok (374, .agg #[]) w := jM (P := Tryz.prog) (T := 59) Tryz.type59 (by kernel_rfl) uu59 w
instance yL8_5 : Mt Tryz.prog 59 (.agg #[]) "Same" 374 := ⟨ry⟩
theorem qj (w : World) : (nilAhead (Tryz.prog.types.size + Made.depth) 59 (.agg #[]) "Same").run Tryz.prog w = .ok (some false) w := iz (P := Tryz.prog) (T := 59) (f := 374) Tryz.type59 (by kernel_rfl) uu59 w
instance yL8_6 : Nl Tryz.prog 59 (.agg #[]) "Same" := ⟨qj⟩
end Go.Sx
