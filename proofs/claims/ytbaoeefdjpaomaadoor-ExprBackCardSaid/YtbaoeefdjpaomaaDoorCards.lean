/-
  DERIVED. GIVEN WITH THE SEED: THE CARDS: each row of YtbaoeefdjpaomaaDoorRows.lean that lists a variable, with what it lists TIED to the program's text (the seventh form; the later family's looks); each row that meets fmt, with fmt's text TOLD by the authors' own Lean function (tested against real Go, not proved from fmt's source: count such statements apart). THE CARD IS WHAT COUNTS. Prove the row's statement (the work); the ties are given (YtbaoeefdjpaomaaDoorTie.lean); close each card by the builder's one call (the guide's Derived/Test/ToyasCard.lean, 'card_holds'). Laid BY PROGRAM, IN A SANDBOX (cutbox-door.mjs). By AI agents, Wed Nov 11 2026. No macro, syntax, notation, axiom, sorry.
-/
import Derived.Test.YtbaoeefdjpaomaaDoorRows
import GoSem.ClaimSeven
namespace Go.Proofs.YtbaoeefdjpaomaaDoor
namespace Rows

/-- THE TIED CARD OF 'cleaverlaw23.ExprBack'. -/
def exprBackCard : Claim7 := { stood := { row := exprBackRow, standIns := [], harness := (true, "778f03d9a706ce9f587061b66facec157bb8f175dae6304160b4e718730fd2b5"), looks := true }, kinds := [], alts := [], laidByText := true, laidKinds := [.data, .data, .data, .sentinel, .sentinel], laidTests := true, laidLooks := .later }
def ExprBackCardSaid : Prop := Claim7.holds Tryd.pinned (.plain (OpenSpec.ofChange exprBackSpec)) exprBackCard

/-- THE TIED CARD OF 'cleaverlaw23.ExprPlace'. -/
def exprPlaceCard : Claim7 := { stood := { row := exprPlaceRow, standIns := [], harness := (true, "778f03d9a706ce9f587061b66facec157bb8f175dae6304160b4e718730fd2b5"), looks := true }, kinds := [], alts := [], laidByText := true, laidKinds := [.data, .data, .data, .sentinel, .sentinel], laidTests := true, laidLooks := .later }
def ExprPlaceCardSaid : Prop := Claim7.holds Tryd.pinned (.plain (OpenSpec.ofChange exprPlaceSpec)) exprPlaceCard

/-- THE SECOND FORM's CARD OF 'cleaverlaw23.ExprBack'. -/
def exprBackUptoCard : Claim7 := { stood := { row := exprBackUptoRow, standIns := [], harness := (true, "778f03d9a706ce9f587061b66facec157bb8f175dae6304160b4e718730fd2b5"), looks := true }, kinds := [], alts := [], laidByText := true, laidKinds := [.data, .data, .data, .sentinel, .sentinel], laidTests := true, laidLooks := .later }
def ExprBackUptoCardSaid : Prop := Claim7.holds Tryd.pinned (.plain (OpenSpec.upto exprBackSpec)) exprBackUptoCard

/-- THE SECOND FORM's CARD OF 'cleaverlaw23.ExprPlace'. -/
def exprPlaceUptoCard : Claim7 := { stood := { row := exprPlaceUptoRow, standIns := [], harness := (true, "778f03d9a706ce9f587061b66facec157bb8f175dae6304160b4e718730fd2b5"), looks := true }, kinds := [], alts := [], laidByText := true, laidKinds := [.data, .data, .data, .sentinel, .sentinel], laidTests := true, laidLooks := .later }
def ExprPlaceUptoCardSaid : Prop := Claim7.holds Tryd.pinned (.plain (OpenSpec.upto exprPlaceSpec)) exprPlaceUptoCard
end Rows
end Go.Proofs.YtbaoeefdjpaomaaDoor
