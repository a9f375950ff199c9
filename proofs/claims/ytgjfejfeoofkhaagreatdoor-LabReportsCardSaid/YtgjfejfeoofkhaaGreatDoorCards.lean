/-
  DERIVED. GIVEN WITH THE SEED: THE CARDS: each row of YtgjfejfeoofkhaaGreatDoorRows.lean that lists a variable, with what it lists TIED to the program's text (the seventh form; the later family's looks); each row that meets fmt, with fmt's text TOLD by the authors' own Lean function (tested against real Go, not proved from fmt's source: count such statements apart). THE CARD IS WHAT COUNTS. Prove the row's statement (the work); the ties are given (YtgjfejfeoofkhaaGreatDoorTie.lean); close each card by the builder's one call (the guide's Derived/Test/ToyasCard.lean, 'card_holds'). Laid BY PROGRAM, IN A SANDBOX (cutbox-door.mjs). By AI agents, Wed Nov 11 2026. No macro, syntax, notation, axiom, sorry.
-/
import Derived.Test.YtgjfejfeoofkhaaGreatDoorRows
import GoSem.ClaimSeven
namespace Go.Proofs.YtgjfejfeoofkhaaGreatDoor
namespace Rows

/-- THE TIED CARD OF 'edenlaw26.LabReports'. -/
def labReportsCard : Claim7 := { stood := { row := labReportsRow, standIns := [], harness := (true, "666800bd3ac71eb84db29cd70d5a439b60d9f9933ad48fad1f7b6b98a199a6c4"), looks := true }, kinds := [], alts := [], laidByText := true, laidKinds := [.handle, .sentinel, .sentinel, .sentinel, .sentinel, .sentinel, .sentinel, .sentinel, .sentinel, .sentinel, .sentinel, .sentinel, .sentinel], laidTests := true, laidLooks := .later }
def LabReportsCardSaid : Prop := Claim7.holds Tryz.pinned (.plain (OpenSpec.ofChange labReportsSpec)) labReportsCard

/-- THE SECOND FORM's CARD OF 'edenlaw26.LabReports'. -/
def labReportsUptoCard : Claim7 := { stood := { row := labReportsUptoRow, standIns := [], harness := (true, "666800bd3ac71eb84db29cd70d5a439b60d9f9933ad48fad1f7b6b98a199a6c4"), looks := true }, kinds := [], alts := [], laidByText := true, laidKinds := [.handle, .sentinel, .sentinel, .sentinel, .sentinel, .sentinel, .sentinel, .sentinel, .sentinel, .sentinel, .sentinel, .sentinel, .sentinel], laidTests := true, laidLooks := .later }
def LabReportsUptoCardSaid : Prop := Claim7.holds Tryz.pinned (.plain (OpenSpec.upto labReportsSpec)) labReportsUptoCard
end Rows
end Go.Proofs.YtgjfejfeoofkhaaGreatDoor
