/- A part of the proof of movingpointChecks. -/
import Derived.Test.YtbenbmdkhcfcfaaGreatDoorI3
set_option linter.unusedVariables false
set_option linter.unusedSimpArgs false
open Go.Proofs.Tryz renaming runUnderlying59 → uu59
namespace Go.Sx
open Go Go.RowKit Go.Proofs
set_option maxRecDepth 100000
set_option maxHeartbeats 40000000
attribute [local irreducible] Code.wp wpList Rd Step ObS Ent
attribute [local irreducible] ao aM ak ar aA bD
theorem nR (w : World) : (method (Tryz.prog.types.size + Made.depth) 59 (.agg #[]) "Equal").run Tryz.prog w = .ok (372, .agg #[]) w := iL (P := Tryz.prog) (T := 59) Tryz.type59 (by kernel_rfl) uu59 w
instance yI4_1 : Mt Tryz.prog 59 (.agg #[]) "Equal" 372 := ⟨nR⟩
theorem mM (w : World) : (nilAhead (Tryz.prog.types.size + Made.depth) 59 (.agg #[]) "Equal").run Tryz.prog w = .ok (some false) w := f8 (P := Tryz.prog) (T := 59) (f := 372) Tryz.type59 (by kernel_rfl) uu59 w
instance yI4_2 : Nl Tryz.prog 59 (.agg #[]) "Equal" := ⟨mM⟩
theorem mR (w : World) : (method (Tryz.prog.types.size + Made.depth) 59 (.agg #[]) "Reduce").run Tryz.prog w = .ok (373, .agg #[]) w := iL (P := Tryz.prog) (T := 59) Tryz.type59 (by kernel_rfl) uu59 w
instance yI4_3 : Mt Tryz.prog 59 (.agg #[]) "Reduce" 373 := ⟨mR⟩
theorem lI (w : World) : (nilAhead (Tryz.prog.types.size + Made.depth) 59 (.agg #[]) "Reduce").run Tryz.prog w = .ok (some false) w := f8 (P := Tryz.prog) (T := 59) (f := 373) Tryz.type59 (by kernel_rfl) uu59 w
instance yI4_4 : Nl Tryz.prog 59 (.agg #[]) "Reduce" := ⟨lI⟩
theorem pq (w : World) : (method (Tryz.prog.types.size + Made.depth) 59 (.agg #[]) "Same").run Tryz.prog w = .ok (374, .agg #[]) w := iL (P := Tryz.prog) (T := 59) Tryz.type59 (by kernel_rfl) uu59 w
instance yI4_5 : Mt Tryz.prog 59 (.agg #[]) "Same" 374 := ⟨pq⟩
theorem nN (w : World) : (nilAhead (Tryz.prog.types.size + Made.depth) 59 (.agg #[]) "Same").run Tryz.prog w = .ok (some false) w := f8 (P := Tryz.prog) (T := 59) (f := 374) Tryz.type59 (by kernel_rfl) uu59 w
instance yI4_6 : Nl Tryz.prog 59 (.agg #[]) "Same" := ⟨nN⟩
end Go.Sx
