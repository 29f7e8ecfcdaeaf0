/- A part of the proof of movingpointLong. -/
import Derived.Test.YtbenbmdkhcfcfaaGreatDoorB6
set_option linter.unusedVariables false
set_option linter.unusedSimpArgs false
open Go.Proofs.Tryz renaming runUnderlying59 → uu59
namespace Go.Sx
open Go Go.RowKit Go.Proofs
set_option maxRecDepth 100000
set_option maxHeartbeats 40000000
attribute [local irreducible] Code.wp wpList Rd Step ObS Ent
attribute [local irreducible] ar aO am au aA bG
theorem oM (w : World) : (method (Tryz.prog.types.size + Made.depth) 59 (.agg #[]) "Equal").run Tryz.prog w = .ok (372, .agg #[]) w := jl (P := Tryz.prog) (T := 59) Tryz.type59 (by kernel_rfl) uu59 w
instance yB7_1 : Mt Tryz.prog 59 (.agg #[]) "Equal" 372 := ⟨oM⟩
theorem nk (w : World) : (nilAhead (Tryz.prog.types.size + Made.depth) 59 (.agg #[]) "Equal").run Tryz.prog w = .ok (some false) w := ia (P := Tryz.prog) (T := 59) (f := 372) Tryz.type59 (by kernel_rfl) uu59 w
instance yB7_2 : Nl Tryz.prog 59 (.agg #[]) "Equal" := ⟨nk⟩
theorem nq (w : World) : (method (Tryz.prog.types.size + Made.depth) 59 (.agg #[]) "Reduce").run Tryz.prog w = .ok (373, .agg #[]) w := jl (P := Tryz.prog) (T := 59) Tryz.type59 (by kernel_rfl) uu59 w
instance yB7_3 : Mt Tryz.prog 59 (.agg #[]) "Reduce" 373 := ⟨nq⟩
theorem mh (w : World) : (nilAhead (Tryz.prog.types.size + Made.depth) 59 (.agg #[]) "Reduce").run Tryz.prog w = .ok (some false) w := ia (P := Tryz.prog) (T := 59) (f := 373) Tryz.type59 (by kernel_rfl) uu59 w
instance yB7_4 : Nl Tryz.prog 59 (.agg #[]) "Reduce" := ⟨mh⟩
theorem pY (w : World) : (method (Tryz.prog.types.size + Made.depth) 59 (.agg #[]) "Same").run Tryz.prog w = .ok (374, .agg #[]) w := jl (P := Tryz.prog) (T := 59) Tryz.type59 (by kernel_rfl) uu59 w
instance yB7_5 : Mt Tryz.prog 59 (.agg #[]) "Same" 374 := ⟨pY⟩
theorem oH (w : World) : (nilAhead (Tryz.prog.types.size + Made.depth) 59 (.agg #[]) "Same").run Tryz.prog w = .ok (some false) w := ia (P := Tryz.prog) (T := 59) (f := 374) Tryz.type59 (by kernel_rfl) uu59 w
instance yB7_6 : Nl Tryz.prog 59 (.agg #[]) "Same" := ⟨oH⟩
end Go.Sx
