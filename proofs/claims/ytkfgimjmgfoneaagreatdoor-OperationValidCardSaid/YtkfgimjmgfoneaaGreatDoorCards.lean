/-
  DERIVED. GIVEN WITH THE SEED: THE CARDS: each row of YtkfgimjmgfoneaaGreatDoorRows.lean that lists a variable, with what it lists TIED to the program's text (the seventh form; the later family's looks); each row that meets fmt, with fmt's text TOLD by the authors' own Lean function (tested against real Go, not proved from fmt's source: count such statements apart). THE CARD IS WHAT COUNTS. Prove the row's statement (the work); the ties are given (YtkfgimjmgfoneaaGreatDoorTie.lean); close each card by the builder's one call (the guide's Derived/Test/ToyasCard.lean, 'card_holds'). Laid BY PROGRAM, IN A SANDBOX (cutbox-door.mjs). By AI agents, Wed Nov 11 2026. No macro, syntax, notation, axiom, sorry.
-/
import Derived.Test.YtkfgimjmgfoneaaGreatDoorRows
import GoSem.ClaimSeven
namespace Go.Proofs.YtkfgimjmgfoneaaGreatDoor
namespace Rows

/-- THE TIED CARD OF 'swarflaw28.OperationValid'. -/
def operationValidCard : Claim7 := { stood := { row := operationValidRow, standIns := [], harness := (true, "91d422a8cd27e0a8ed11e0d5cebedf4782ef958498394c9e2b2e9469eb7046a4"), looks := false }, kinds := [], alts := [], laidByText := true, laidKinds := [.data, .data, .data], laidTests := true, laidLooks := .later }
def OperationValidCardSaid : Prop := Claim7.holds Tryz.pinned (.plain (OpenSpec.ofChange operationValidSpec)) operationValidCard

/-- THE SECOND FORM's CARD OF 'swarflaw28.OperationValid'. -/
def operationValidUptoCard : Claim7 := { stood := { row := operationValidUptoRow, standIns := [], harness := (true, "91d422a8cd27e0a8ed11e0d5cebedf4782ef958498394c9e2b2e9469eb7046a4"), looks := false }, kinds := [], alts := [], laidByText := true, laidKinds := [.data, .data, .data], laidTests := true, laidLooks := .later }
def OperationValidUptoCardSaid : Prop := Claim7.holds Tryz.pinned (.plain (OpenSpec.upto operationValidSpec)) operationValidUptoCard
end Rows
end Go.Proofs.YtkfgimjmgfoneaaGreatDoor
