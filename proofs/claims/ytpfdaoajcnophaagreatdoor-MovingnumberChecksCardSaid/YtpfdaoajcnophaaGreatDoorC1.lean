/- A part of the proof of movingnumberChecks. -/
import Derived.Test.YtpfdaoajcnophaaGreatDoorProg
import Derived.Test.YtpfdaoajcnophaaGreatDoorB7
set_option linter.unusedVariables false
set_option linter.unusedSimpArgs false
open Go.Proofs.Tryz renaming runUnderlying275 → uu275
namespace Go.Sx
open Go Go.RowKit Go.Proofs
set_option maxRecDepth 100000
set_option maxHeartbeats 40000000
attribute [local irreducible] Code.wp wpList Rd Step ObS Ent
attribute [local irreducible] ah ak aq an bN
theorem tb (w : World) : (method (Tryz.prog.types.size + Made.depth) 275 (.agg #[]) "Equal").run Tryz.prog w = .ok (408, .agg #[]) w := oL (P := Tryz.prog) (T := 275) Tryz.type275 (by kernel_rfl) uu275 w
instance yC1_1 : Mt Tryz.prog 275 (.agg #[]) "Equal" 408 := ⟨tb⟩
theorem rJ (w : World) : (nilAhead (Tryz.prog.types.size + Made.depth) 275 (.agg #[]) "Equal").run Tryz.prog w = .ok (some false) w := lU (P := Tryz.prog) (T := 275) (f := 408) Tryz.type275 (by kernel_rfl) uu275 w
instance yC1_2 : Nl Tryz.prog 275 (.agg #[]) "Equal" := ⟨rJ⟩
theorem rO (w : World) : (method (Tryz.prog.types.size + Made.depth) 275 (.agg #[]) "Reduce").run Tryz.prog w = .ok (409, .agg #[]) w := oL (P := Tryz.prog) (T := 275) Tryz.type275 (by kernel_rfl) uu275 w
instance yC1_3 : Mt Tryz.prog 275 (.agg #[]) "Reduce" 409 := ⟨rO⟩
theorem qx (w : World) : (nilAhead (Tryz.prog.types.size + Made.depth) 275 (.agg #[]) "Reduce").run Tryz.prog w = .ok (some false) w := lU (P := Tryz.prog) (T := 275) (f := 409) Tryz.type275 (by kernel_rfl) uu275 w
instance yC1_4 : Nl Tryz.prog 275 (.agg #[]) "Reduce" := ⟨qx⟩
theorem uA (w : World) : (method (Tryz.prog.types.size + Made.depth) 275 (.agg #[]) "Same").run Tryz.prog w = .ok (316, .agg #[]) w := oL (P := Tryz.prog) (T := 275) Tryz.type275 (by kernel_rfl) uu275 w
instance yC1_5 : Mt Tryz.prog 275 (.agg #[]) "Same" 316 := ⟨uA⟩
theorem s0 (w : World) : (nilAhead (Tryz.prog.types.size + Made.depth) 275 (.agg #[]) "Same").run Tryz.prog w = .ok (some false) w := lU (P := Tryz.prog) (T := 275) (f := 316) Tryz.type275 (by kernel_rfl) uu275 w
instance yC1_6 : Nl Tryz.prog 275 (.agg #[]) "Same" := ⟨s0⟩
end Go.Sx
