/- A part of the proof of movingpointMeets. -/
import Derived.Test.YtbenbmdkhcfcfaaGreatDoorB7
set_option linter.unusedVariables false
set_option linter.unusedSimpArgs false
open Go.Proofs.Tryz renaming runUnderlying59 → uu59
namespace Go.Sx
open Go Go.RowKit Go.Proofs
set_option maxRecDepth 100000
set_option maxHeartbeats 40000000
attribute [local irreducible] Code.wp wpList Rd Step ObS Ent
attribute [local irreducible] aq aP ah au aA bR
theorem pu (w : World) : (method (Tryz.prog.types.size + Made.depth) 59 (.agg #[]) "Equal").run Tryz.prog w = .ok (372, .agg #[]) w := jS (P := Tryz.prog) (T := 59) Tryz.type59 (by kernel_rfl) uu59 w
instance : Mt Tryz.prog 59 (.agg #[]) "Equal" 372 := ⟨pu⟩
theorem nU (w : World) : (nilAhead (Tryz.prog.types.size + Made.depth) 59 (.agg #[]) "Equal").run Tryz.prog w = .ok (some false) w := iq (P := Tryz.prog) (T := 59) (f := 372) Tryz.type59 (by kernel_rfl) uu59 w
instance : Nl Tryz.prog 59 (.agg #[]) "Equal" := ⟨nU⟩
theorem nY (w : World) : (method (Tryz.prog.types.size + Made.depth) 59 (.agg #[]) "Reduce").run Tryz.prog w = .ok (373, .agg #[]) w := jS (P := Tryz.prog) (T := 59) Tryz.type59 (by kernel_rfl) uu59 w
instance : Mt Tryz.prog 59 (.agg #[]) "Reduce" 373 := ⟨nY⟩
theorem mR (w : World) : (nilAhead (Tryz.prog.types.size + Made.depth) 59 (.agg #[]) "Reduce").run Tryz.prog w = .ok (some false) w := iq (P := Tryz.prog) (T := 59) (f := 373) Tryz.type59 (by kernel_rfl) uu59 w
instance : Nl Tryz.prog 59 (.agg #[]) "Reduce" := ⟨mR⟩
theorem qI (w : World) : (method (Tryz.prog.types.size + Made.depth) 59 (.agg #[]) "Same").run Tryz.prog w = .ok (374, .agg #[]) w := jS (P := Tryz.prog) (T := 59) Tryz.type59 (by kernel_rfl) uu59 w
instance : Mt Tryz.prog 59 (.agg #[]) "Same" 374 := ⟨qI⟩
theorem po (w : World) : (nilAhead (Tryz.prog.types.size + Made.depth) 59 (.agg #[]) "Same").run Tryz.prog w = .ok (some false) w := iq (P := Tryz.prog) (T := 59) (f := 374) Tryz.type59 (by kernel_rfl) uu59 w
instance : Nl Tryz.prog 59 (.agg #[]) "Same" := ⟨po⟩
end Go.Sx
