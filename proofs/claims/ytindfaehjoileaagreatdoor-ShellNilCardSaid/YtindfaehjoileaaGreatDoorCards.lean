/-
  DERIVED. GIVEN WITH THE SEED: THE CARDS: each row of YtindfaehjoileaaGreatDoorRows.lean that lists a variable, with what it lists TIED to the program's text (the seventh form; the later family's looks); each row that meets fmt, with fmt's text TOLD by the authors' own Lean function (tested against real Go, not proved from fmt's source: count such statements apart). THE CARD IS WHAT COUNTS. Prove the row's statement (the work); the ties are given (YtindfaehjoileaaGreatDoorTie.lean); close each card by the builder's one call (the guide's Derived/Test/ToyasCard.lean, 'card_holds'). Laid BY PROGRAM, IN A SANDBOX (cutbox-door.mjs). By AI agents, Wed Nov 11 2026. No macro, syntax, notation, axiom, sorry.
-/
import Derived.Test.YtindfaehjoileaaGreatDoorRows
import GoSem.ClaimSeven
namespace Go.Proofs.YtindfaehjoileaaGreatDoor
namespace Rows

/-- THE TIED CARD OF 'edenlaw27.ShellNil'. -/
def shellNilCard : Claim7 := { stood := { row := shellNilRow, standIns := [], harness := (true, "d506bcb3e07ca0515ae4ce2aa6af3ad262457205d09cf2dda225804ec1c284d4"), looks := true }, kinds := [], alts := [], laidByText := true, laidKinds := [.sentinel, .sentinel, .sentinel, .sentinel, .sentinel, .sentinel, .sentinel, .sentinel, .sentinel, .sentinel, .sentinel, .sentinel, .pinned, .data, .handle, .data, .data, .data, .sentinel, .sentinel], laidTests := true, laidLooks := .later }
def ShellNilCardSaid : Prop := Claim7.holds Tryz.pinned (.plain (OpenSpec.ofChange shellNilSpec)) shellNilCard

/-- THE SECOND FORM's CARD OF 'edenlaw27.ShellNil'. -/
def shellNilUptoCard : Claim7 := { stood := { row := shellNilUptoRow, standIns := [], harness := (true, "d506bcb3e07ca0515ae4ce2aa6af3ad262457205d09cf2dda225804ec1c284d4"), looks := true }, kinds := [], alts := [], laidByText := true, laidKinds := [.sentinel, .sentinel, .sentinel, .sentinel, .sentinel, .sentinel, .sentinel, .sentinel, .sentinel, .sentinel, .sentinel, .sentinel, .pinned, .data, .handle, .data, .data, .data, .sentinel, .sentinel], laidTests := true, laidLooks := .later }
def ShellNilUptoCardSaid : Prop := Claim7.holds Tryz.pinned (.plain (OpenSpec.upto shellNilSpec)) shellNilUptoCard
end Rows
end Go.Proofs.YtindfaehjoileaaGreatDoor
