/-
  DERIVED. GIVEN WITH THE SEED: THE CARDS: each row of YtbnldpccdppmiaaGreatDoorRows.lean that lists a variable, with what it lists TIED to the program's text (the seventh form; the later family's looks); each row that meets fmt, with fmt's text TOLD by the authors' own Lean function (tested against real Go, not proved from fmt's source: count such statements apart). THE CARD IS WHAT COUNTS. Prove the row's statement (the work); the ties are given (YtbnldpccdppmiaaGreatDoorTie.lean); close each card by the builder's one call (the guide's Derived/Test/ToyasCard.lean, 'card_holds'). Laid BY PROGRAM, IN A SANDBOX (cutbox-door.mjs). By AI agents, Wed Nov 11 2026. No macro, syntax, notation, axiom, sorry.
-/
import Derived.Test.YtbnldpccdppmiaaGreatDoorRows
import GoSem.ClaimSeven
namespace Go.Proofs.YtbnldpccdppmiaaGreatDoor
namespace Rows

/-- THE TIED CARD OF 'viatorlaw33.BracketBrackets'. -/
def bracketBracketsCard : Claim7 := { stood := { row := bracketBracketsRow, standIns := [], harness := (true, "c1f15daa3491b6e53f4471897ef1b0540a3d5e6ea479b8e6aa629787dcf9f908"), looks := false }, kinds := [], alts := [], laidByText := true, laidKinds := [.data, .pinned], laidTests := true, laidLooks := .later }
def BracketBracketsCardSaid : Prop := Claim7.holds Tryz.pinned (.plain (OpenSpec.ofChange bracketBracketsSpec)) bracketBracketsCard

/-- THE TIED CARD OF 'viatorlaw33.BracketQuestions'. -/
def bracketQuestionsCard : Claim7 := { stood := { row := bracketQuestionsRow, standIns := [], harness := (true, "c1f15daa3491b6e53f4471897ef1b0540a3d5e6ea479b8e6aa629787dcf9f908"), looks := false }, kinds := [], alts := [], laidByText := true, laidKinds := [.data, .pinned], laidTests := true, laidLooks := .later }
def BracketQuestionsCardSaid : Prop := Claim7.holds Tryz.pinned (.plain (OpenSpec.ofChange bracketQuestionsSpec)) bracketQuestionsCard

/-- THE TIED CARD OF 'viatorlaw33.BracketOperates'. -/
def bracketOperatesCard : Claim7 := { stood := { row := bracketOperatesRow, standIns := [], harness := (true, "c1f15daa3491b6e53f4471897ef1b0540a3d5e6ea479b8e6aa629787dcf9f908"), looks := false }, kinds := [], alts := [], laidByText := true, laidKinds := [.data, .pinned], laidTests := true, laidLooks := .later }
def BracketOperatesCardSaid : Prop := Claim7.holds Tryz.pinned (.plain (OpenSpec.ofChange bracketOperatesSpec)) bracketOperatesCard

/-- THE TIED CARD OF 'viatorlaw33.BracketLogic'. -/
def bracketLogicCard : Claim7 := { stood := { row := bracketLogicRow, standIns := [], harness := (true, "c1f15daa3491b6e53f4471897ef1b0540a3d5e6ea479b8e6aa629787dcf9f908"), looks := false }, kinds := [], alts := [], laidByText := true, laidKinds := [.data, .pinned], laidTests := true, laidLooks := .later }
def BracketLogicCardSaid : Prop := Claim7.holds Tryz.pinned (.plain (OpenSpec.ofChange bracketLogicSpec)) bracketLogicCard

/-- THE TIED CARD OF 'viatorlaw33.BracketChecks'. -/
def bracketChecksCard : Claim7 := { stood := { row := bracketChecksRow, standIns := [], harness := (true, "c1f15daa3491b6e53f4471897ef1b0540a3d5e6ea479b8e6aa629787dcf9f908"), looks := false }, kinds := [], alts := [], laidByText := true, laidKinds := [.data, .pinned], laidTests := true, laidLooks := .later }
def BracketChecksCardSaid : Prop := Claim7.holds Tryz.pinned (.plain (OpenSpec.ofChange bracketChecksSpec)) bracketChecksCard

/-- THE SECOND FORM's CARD OF 'viatorlaw33.BracketBrackets'. -/
def bracketBracketsUptoCard : Claim7 := { stood := { row := bracketBracketsUptoRow, standIns := [], harness := (true, "c1f15daa3491b6e53f4471897ef1b0540a3d5e6ea479b8e6aa629787dcf9f908"), looks := false }, kinds := [], alts := [], laidByText := true, laidKinds := [.data, .pinned], laidTests := true, laidLooks := .later }
def BracketBracketsUptoCardSaid : Prop := Claim7.holds Tryz.pinned (.plain (OpenSpec.upto bracketBracketsSpec)) bracketBracketsUptoCard

/-- THE SECOND FORM's CARD OF 'viatorlaw33.BracketQuestions'. -/
def bracketQuestionsUptoCard : Claim7 := { stood := { row := bracketQuestionsUptoRow, standIns := [], harness := (true, "c1f15daa3491b6e53f4471897ef1b0540a3d5e6ea479b8e6aa629787dcf9f908"), looks := false }, kinds := [], alts := [], laidByText := true, laidKinds := [.data, .pinned], laidTests := true, laidLooks := .later }
def BracketQuestionsUptoCardSaid : Prop := Claim7.holds Tryz.pinned (.plain (OpenSpec.upto bracketQuestionsSpec)) bracketQuestionsUptoCard

/-- THE SECOND FORM's CARD OF 'viatorlaw33.BracketOperates'. -/
def bracketOperatesUptoCard : Claim7 := { stood := { row := bracketOperatesUptoRow, standIns := [], harness := (true, "c1f15daa3491b6e53f4471897ef1b0540a3d5e6ea479b8e6aa629787dcf9f908"), looks := false }, kinds := [], alts := [], laidByText := true, laidKinds := [.data, .pinned], laidTests := true, laidLooks := .later }
def BracketOperatesUptoCardSaid : Prop := Claim7.holds Tryz.pinned (.plain (OpenSpec.upto bracketOperatesSpec)) bracketOperatesUptoCard

/-- THE SECOND FORM's CARD OF 'viatorlaw33.BracketLogic'. -/
def bracketLogicUptoCard : Claim7 := { stood := { row := bracketLogicUptoRow, standIns := [], harness := (true, "c1f15daa3491b6e53f4471897ef1b0540a3d5e6ea479b8e6aa629787dcf9f908"), looks := false }, kinds := [], alts := [], laidByText := true, laidKinds := [.data, .pinned], laidTests := true, laidLooks := .later }
def BracketLogicUptoCardSaid : Prop := Claim7.holds Tryz.pinned (.plain (OpenSpec.upto bracketLogicSpec)) bracketLogicUptoCard

/-- THE SECOND FORM's CARD OF 'viatorlaw33.BracketChecks'. -/
def bracketChecksUptoCard : Claim7 := { stood := { row := bracketChecksUptoRow, standIns := [], harness := (true, "c1f15daa3491b6e53f4471897ef1b0540a3d5e6ea479b8e6aa629787dcf9f908"), looks := false }, kinds := [], alts := [], laidByText := true, laidKinds := [.data, .pinned], laidTests := true, laidLooks := .later }
def BracketChecksUptoCardSaid : Prop := Claim7.holds Tryz.pinned (.plain (OpenSpec.upto bracketChecksSpec)) bracketChecksUptoCard
end Rows
end Go.Proofs.YtbnldpccdppmiaaGreatDoor
