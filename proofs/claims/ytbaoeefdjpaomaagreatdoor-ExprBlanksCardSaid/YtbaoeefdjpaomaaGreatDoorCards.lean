/-
  DERIVED. GIVEN WITH THE SEED: THE CARDS: each row of YtbaoeefdjpaomaaGreatDoorRows.lean that lists a variable, with what it lists TIED to the program's text (the seventh form; the later family's looks); each row that meets fmt, with fmt's text TOLD by the authors' own Lean function (tested against real Go, not proved from fmt's source: count such statements apart). THE CARD IS WHAT COUNTS. Prove the row's statement (the work); the ties are given (YtbaoeefdjpaomaaGreatDoorTie.lean); close each card by the builder's one call (the guide's Derived/Test/ToyasCard.lean, 'card_holds'). Laid BY PROGRAM, IN A SANDBOX (cutbox-door.mjs). By AI agents, Wed Nov 11 2026. No macro, syntax, notation, axiom, sorry.
-/
import Derived.Test.YtbaoeefdjpaomaaGreatDoorRows
import GoSem.ClaimSeven
namespace Go.Proofs.YtbaoeefdjpaomaaGreatDoor
namespace Rows

/-- THE TIED CARD OF 'cleaverlaw23.ExprParses'. -/
def exprParsesCard : Claim7 := { stood := { row := exprParsesRow, standIns := [], harness := (true, "d152d743adf367b099d5ff6922d9055b9fa6c78bd8b292ecd99d2df46e1405a1"), looks := true }, kinds := [], alts := [], laidByText := true, laidKinds := [.data, .data, .data, .sentinel, .sentinel], laidTests := true, laidLooks := .later }
def ExprParsesCardSaid : Prop := Claim7.holds Tryz.pinned (.plain (OpenSpec.ofChange exprParsesSpec)) exprParsesCard

/-- THE TIED CARD OF 'cleaverlaw23.ExprBlanks'. -/
def exprBlanksCard : Claim7 := { stood := { row := exprBlanksRow, standIns := [], harness := (true, "d152d743adf367b099d5ff6922d9055b9fa6c78bd8b292ecd99d2df46e1405a1"), looks := true }, kinds := [], alts := [], laidByText := true, laidKinds := [.data, .data, .data, .sentinel, .sentinel], laidTests := true, laidLooks := .later }
def ExprBlanksCardSaid : Prop := Claim7.holds Tryz.pinned (.plain (OpenSpec.ofChange exprBlanksSpec)) exprBlanksCard

/-- THE SECOND FORM's CARD OF 'cleaverlaw23.ExprParses'. -/
def exprParsesUptoCard : Claim7 := { stood := { row := exprParsesUptoRow, standIns := [], harness := (true, "d152d743adf367b099d5ff6922d9055b9fa6c78bd8b292ecd99d2df46e1405a1"), looks := true }, kinds := [], alts := [], laidByText := true, laidKinds := [.data, .data, .data, .sentinel, .sentinel], laidTests := true, laidLooks := .later }
def ExprParsesUptoCardSaid : Prop := Claim7.holds Tryz.pinned (.plain (OpenSpec.upto exprParsesSpec)) exprParsesUptoCard

/-- THE SECOND FORM's CARD OF 'cleaverlaw23.ExprBlanks'. -/
def exprBlanksUptoCard : Claim7 := { stood := { row := exprBlanksUptoRow, standIns := [], harness := (true, "d152d743adf367b099d5ff6922d9055b9fa6c78bd8b292ecd99d2df46e1405a1"), looks := true }, kinds := [], alts := [], laidByText := true, laidKinds := [.data, .data, .data, .sentinel, .sentinel], laidTests := true, laidLooks := .later }
def ExprBlanksUptoCardSaid : Prop := Claim7.holds Tryz.pinned (.plain (OpenSpec.upto exprBlanksSpec)) exprBlanksUptoCard
end Rows
end Go.Proofs.YtbaoeefdjpaomaaGreatDoor
