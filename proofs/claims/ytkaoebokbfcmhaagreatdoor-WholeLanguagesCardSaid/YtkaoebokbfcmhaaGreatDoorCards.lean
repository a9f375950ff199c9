/-
  DERIVED. GIVEN WITH THE SEED: THE CARDS: each row of YtkaoebokbfcmhaaGreatDoorRows.lean that lists a variable, with what it lists TIED to the program's text (the seventh form; the later family's looks); each row that meets fmt, with fmt's text TOLD by the authors' own Lean function (tested against real Go, not proved from fmt's source: count such statements apart). THE CARD IS WHAT COUNTS. Prove the row's statement (the work); the ties are given (YtkaoebokbfcmhaaGreatDoorTie.lean); close each card by the builder's one call (the guide's Derived/Test/ToyasCard.lean, 'card_holds'). Laid BY PROGRAM, IN A SANDBOX (cutbox-door.mjs). By AI agents, Wed Nov 11 2026. No macro, syntax, notation, axiom, sorry.
-/
import Derived.Test.YtkaoebokbfcmhaaGreatDoorRows
import GoSem.ClaimSeven
namespace Go.Proofs.YtkaoebokbfcmhaaGreatDoor
namespace Rows

/-- THE TIED CARD OF 'edentop.WholeComposed'. -/
def wholeComposedCard : Claim7 := { stood := { row := wholeComposedRow, standIns := [], harness := (true, "3ff2b7e2b3751e6aa73a424a67753f707180b739ea48c1b327d3172d3f914186"), looks := true }, kinds := [], alts := [], laidByText := true, laidKinds := [.handle, .sentinel, .sentinel, .sentinel, .sentinel, .sentinel, .sentinel, .sentinel, .sentinel, .sentinel, .sentinel, .sentinel, .sentinel], laidTests := true, laidLooks := .later }
def WholeComposedCardSaid : Prop := Claim7.holds Tryz.pinned (.plain (OpenSpec.ofChange wholeComposedSpec)) wholeComposedCard

/-- THE TIED CARD OF 'edentop.WholeRings'. -/
def wholeRingsCard : Claim7 := { stood := { row := wholeRingsRow, standIns := [], harness := (true, "3ff2b7e2b3751e6aa73a424a67753f707180b739ea48c1b327d3172d3f914186"), looks := true }, kinds := [], alts := [], laidByText := true, laidKinds := [.handle, .sentinel, .sentinel, .sentinel, .sentinel, .sentinel, .sentinel, .sentinel, .sentinel, .sentinel, .sentinel, .sentinel, .sentinel], laidTests := true, laidLooks := .later }
def WholeRingsCardSaid : Prop := Claim7.holds Tryz.pinned (.plain (OpenSpec.ofChange wholeRingsSpec)) wholeRingsCard

/-- THE TIED CARD OF 'edentop.WholeLanguages'. -/
def wholeLanguagesCard : Claim7 := { stood := { row := wholeLanguagesRow, standIns := [], harness := (true, "3ff2b7e2b3751e6aa73a424a67753f707180b739ea48c1b327d3172d3f914186"), looks := true }, kinds := [], alts := [], laidByText := true, laidKinds := [.handle, .sentinel, .sentinel, .sentinel, .sentinel, .sentinel, .sentinel, .sentinel, .sentinel, .sentinel, .sentinel, .sentinel, .sentinel], laidTests := true, laidLooks := .later }
def WholeLanguagesCardSaid : Prop := Claim7.holds Tryz.pinned (.plain (OpenSpec.ofChange wholeLanguagesSpec)) wholeLanguagesCard

/-- THE TIED CARD OF 'edentop.WholeRefused'. -/
def wholeRefusedCard : Claim7 := { stood := { row := wholeRefusedRow, standIns := [], harness := (true, "3ff2b7e2b3751e6aa73a424a67753f707180b739ea48c1b327d3172d3f914186"), looks := true }, kinds := [], alts := [], laidByText := true, laidKinds := [.handle, .sentinel, .sentinel, .sentinel, .sentinel, .sentinel, .sentinel, .sentinel, .sentinel, .sentinel, .sentinel, .sentinel, .sentinel], laidTests := true, laidLooks := .later }
def WholeRefusedCardSaid : Prop := Claim7.holds Tryz.pinned (.plain (OpenSpec.ofChange wholeRefusedSpec)) wholeRefusedCard

/-- THE SECOND FORM's CARD OF 'edentop.WholeComposed'. -/
def wholeComposedUptoCard : Claim7 := { stood := { row := wholeComposedUptoRow, standIns := [], harness := (true, "3ff2b7e2b3751e6aa73a424a67753f707180b739ea48c1b327d3172d3f914186"), looks := true }, kinds := [], alts := [], laidByText := true, laidKinds := [.handle, .sentinel, .sentinel, .sentinel, .sentinel, .sentinel, .sentinel, .sentinel, .sentinel, .sentinel, .sentinel, .sentinel, .sentinel], laidTests := true, laidLooks := .later }
def WholeComposedUptoCardSaid : Prop := Claim7.holds Tryz.pinned (.plain (OpenSpec.upto wholeComposedSpec)) wholeComposedUptoCard

/-- THE SECOND FORM's CARD OF 'edentop.WholeRings'. -/
def wholeRingsUptoCard : Claim7 := { stood := { row := wholeRingsUptoRow, standIns := [], harness := (true, "3ff2b7e2b3751e6aa73a424a67753f707180b739ea48c1b327d3172d3f914186"), looks := true }, kinds := [], alts := [], laidByText := true, laidKinds := [.handle, .sentinel, .sentinel, .sentinel, .sentinel, .sentinel, .sentinel, .sentinel, .sentinel, .sentinel, .sentinel, .sentinel, .sentinel], laidTests := true, laidLooks := .later }
def WholeRingsUptoCardSaid : Prop := Claim7.holds Tryz.pinned (.plain (OpenSpec.upto wholeRingsSpec)) wholeRingsUptoCard

/-- THE SECOND FORM's CARD OF 'edentop.WholeLanguages'. -/
def wholeLanguagesUptoCard : Claim7 := { stood := { row := wholeLanguagesUptoRow, standIns := [], harness := (true, "3ff2b7e2b3751e6aa73a424a67753f707180b739ea48c1b327d3172d3f914186"), looks := true }, kinds := [], alts := [], laidByText := true, laidKinds := [.handle, .sentinel, .sentinel, .sentinel, .sentinel, .sentinel, .sentinel, .sentinel, .sentinel, .sentinel, .sentinel, .sentinel, .sentinel], laidTests := true, laidLooks := .later }
def WholeLanguagesUptoCardSaid : Prop := Claim7.holds Tryz.pinned (.plain (OpenSpec.upto wholeLanguagesSpec)) wholeLanguagesUptoCard

/-- THE SECOND FORM's CARD OF 'edentop.WholeRefused'. -/
def wholeRefusedUptoCard : Claim7 := { stood := { row := wholeRefusedUptoRow, standIns := [], harness := (true, "3ff2b7e2b3751e6aa73a424a67753f707180b739ea48c1b327d3172d3f914186"), looks := true }, kinds := [], alts := [], laidByText := true, laidKinds := [.handle, .sentinel, .sentinel, .sentinel, .sentinel, .sentinel, .sentinel, .sentinel, .sentinel, .sentinel, .sentinel, .sentinel, .sentinel], laidTests := true, laidLooks := .later }
def WholeRefusedUptoCardSaid : Prop := Claim7.holds Tryz.pinned (.plain (OpenSpec.upto wholeRefusedSpec)) wholeRefusedUptoCard
end Rows
end Go.Proofs.YtkaoebokbfcmhaaGreatDoor
