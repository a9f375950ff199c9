/-
  DERIVED. GIVEN WITH THE SEED: THE CARDS: each row of YtncpnaoabkjegaaGreatDoorRows.lean that lists a variable, with what it lists TIED to the program's text (the seventh form; the later family's looks); each row that meets fmt, with fmt's text TOLD by the authors' own Lean function (tested against real Go, not proved from fmt's source: count such statements apart). THE CARD IS WHAT COUNTS. Prove the row's statement (the work); the ties are given (YtncpnaoabkjegaaGreatDoorTie.lean); close each card by the builder's one call (the guide's Derived/Test/ToyasCard.lean, 'card_holds'). Laid BY PROGRAM, IN A SANDBOX (cutbox-door.mjs). By AI agents, Wed Nov 11 2026. No macro, syntax, notation, axiom, sorry.
-/
import Derived.Test.YtncpnaoabkjegaaGreatDoorRows
import GoSem.ClaimSeven
namespace Go.Proofs.YtncpnaoabkjegaaGreatDoor
namespace Rows

/-- THE TIED CARD OF 'edenlaw19.PermutOntos'. -/
def permutOntosCard : Claim7 := { stood := { row := permutOntosRow, standIns := [], harness := (true, "8b0d597747f9a7b5afdc08ef7e5c873f226e9f75263e09fd28557b81e2810c13"), looks := true }, kinds := [], alts := [], laidByText := true, laidKinds := [.handle, .sentinel, .sentinel, .sentinel, .sentinel, .sentinel, .sentinel, .sentinel, .sentinel, .sentinel, .sentinel, .sentinel, .sentinel], laidTests := true, laidLooks := .later }
def PermutOntosCardSaid : Prop := Claim7.holds Tryz.pinned (.plain (OpenSpec.ofChange permutOntosSpec)) permutOntosCard

/-- THE TIED CARD OF 'edenlaw18.AddOntos'. -/
def addOntosCard : Claim7 := { stood := { row := addOntosRow, standIns := [], harness := (true, "8b0d597747f9a7b5afdc08ef7e5c873f226e9f75263e09fd28557b81e2810c13"), looks := true }, kinds := [], alts := [], laidByText := true, laidKinds := [.handle, .sentinel, .sentinel, .sentinel, .sentinel, .sentinel, .sentinel, .sentinel, .sentinel, .sentinel, .sentinel, .sentinel, .sentinel], laidTests := true, laidLooks := .later }
def AddOntosCardSaid : Prop := Claim7.holds Tryz.pinned (.plain (OpenSpec.ofChange addOntosSpec)) addOntosCard

/-- THE TIED CARD OF 'edenlaw26.LabKeeps'. -/
def labKeepsCard : Claim7 := { stood := { row := labKeepsRow, standIns := [], harness := (true, "8b0d597747f9a7b5afdc08ef7e5c873f226e9f75263e09fd28557b81e2810c13"), looks := true }, kinds := [], alts := [], laidByText := true, laidKinds := [.handle, .sentinel, .sentinel, .sentinel, .sentinel, .sentinel, .sentinel, .sentinel, .sentinel, .sentinel, .sentinel, .sentinel, .sentinel], laidTests := true, laidLooks := .later }
def LabKeepsCardSaid : Prop := Claim7.holds Tryz.pinned (.plain (OpenSpec.ofChange labKeepsSpec)) labKeepsCard

/-- THE TIED CARD OF 'edenlaw26.LabReports'. -/
def labReportsCard : Claim7 := { stood := { row := labReportsRow, standIns := [], harness := (true, "8b0d597747f9a7b5afdc08ef7e5c873f226e9f75263e09fd28557b81e2810c13"), looks := true }, kinds := [], alts := [], laidByText := true, laidKinds := [.handle, .sentinel, .sentinel, .sentinel, .sentinel, .sentinel, .sentinel, .sentinel, .sentinel, .sentinel, .sentinel, .sentinel, .sentinel], laidTests := true, laidLooks := .later }
def LabReportsCardSaid : Prop := Claim7.holds Tryz.pinned (.plain (OpenSpec.ofChange labReportsSpec)) labReportsCard

/-- THE TIED CARD OF 'edenlaw26.LabBack'. -/
def labBackCard : Claim7 := { stood := { row := labBackRow, standIns := [], harness := (true, "8b0d597747f9a7b5afdc08ef7e5c873f226e9f75263e09fd28557b81e2810c13"), looks := true }, kinds := [], alts := [], laidByText := true, laidKinds := [.handle, .sentinel, .sentinel, .sentinel, .sentinel, .sentinel, .sentinel, .sentinel, .sentinel, .sentinel, .sentinel, .sentinel, .sentinel], laidTests := true, laidLooks := .later }
def LabBackCardSaid : Prop := Claim7.holds Tryz.pinned (.plain (OpenSpec.ofChange labBackSpec)) labBackCard

/-- THE TIED CARD OF 'edenlaw26.LabForms'. -/
def labFormsCard : Claim7 := { stood := { row := labFormsRow, standIns := [], harness := (true, "8b0d597747f9a7b5afdc08ef7e5c873f226e9f75263e09fd28557b81e2810c13"), looks := true }, kinds := [], alts := [], laidByText := true, laidKinds := [.handle, .sentinel, .sentinel, .sentinel, .sentinel, .sentinel, .sentinel, .sentinel, .sentinel, .sentinel, .sentinel, .sentinel, .sentinel], laidTests := true, laidLooks := .later }
def LabFormsCardSaid : Prop := Claim7.holds Tryz.pinned (.plain (OpenSpec.ofChange labFormsSpec)) labFormsCard

/-- THE TIED CARD OF 'edenlaw26.LabKnown'. -/
def labKnownCard : Claim7 := { stood := { row := labKnownRow, standIns := [], harness := (true, "8b0d597747f9a7b5afdc08ef7e5c873f226e9f75263e09fd28557b81e2810c13"), looks := true }, kinds := [], alts := [], laidByText := true, laidKinds := [.handle, .sentinel, .sentinel, .sentinel, .sentinel, .sentinel, .sentinel, .sentinel, .sentinel, .sentinel, .sentinel, .sentinel, .sentinel], laidTests := true, laidLooks := .later }
def LabKnownCardSaid : Prop := Claim7.holds Tryz.pinned (.plain (OpenSpec.ofChange labKnownSpec)) labKnownCard

/-- THE TIED CARD OF 'edenlaw26.LabTexts'. -/
def labTextsCard : Claim7 := { stood := { row := labTextsRow, standIns := [], harness := (true, "8b0d597747f9a7b5afdc08ef7e5c873f226e9f75263e09fd28557b81e2810c13"), looks := true }, kinds := [], alts := [], laidByText := true, laidKinds := [.data, .data, .data, .handle, .sentinel, .sentinel, .sentinel, .sentinel, .sentinel, .sentinel, .sentinel, .sentinel, .sentinel, .sentinel, .sentinel, .sentinel], laidTests := true, laidLooks := .later }
def LabTextsCardSaid : Prop := Claim7.holds Tryz.pinned (.plain (OpenSpec.ofChange labTextsSpec)) labTextsCard

/-- THE SECOND FORM's CARD OF 'edenlaw19.PermutOntos'. -/
def permutOntosUptoCard : Claim7 := { stood := { row := permutOntosUptoRow, standIns := [], harness := (true, "8b0d597747f9a7b5afdc08ef7e5c873f226e9f75263e09fd28557b81e2810c13"), looks := true }, kinds := [], alts := [], laidByText := true, laidKinds := [.handle, .sentinel, .sentinel, .sentinel, .sentinel, .sentinel, .sentinel, .sentinel, .sentinel, .sentinel, .sentinel, .sentinel, .sentinel], laidTests := true, laidLooks := .later }
def PermutOntosUptoCardSaid : Prop := Claim7.holds Tryz.pinned (.plain (OpenSpec.upto permutOntosSpec)) permutOntosUptoCard

/-- THE SECOND FORM's CARD OF 'edenlaw18.AddOntos'. -/
def addOntosUptoCard : Claim7 := { stood := { row := addOntosUptoRow, standIns := [], harness := (true, "8b0d597747f9a7b5afdc08ef7e5c873f226e9f75263e09fd28557b81e2810c13"), looks := true }, kinds := [], alts := [], laidByText := true, laidKinds := [.handle, .sentinel, .sentinel, .sentinel, .sentinel, .sentinel, .sentinel, .sentinel, .sentinel, .sentinel, .sentinel, .sentinel, .sentinel], laidTests := true, laidLooks := .later }
def AddOntosUptoCardSaid : Prop := Claim7.holds Tryz.pinned (.plain (OpenSpec.upto addOntosSpec)) addOntosUptoCard

/-- THE SECOND FORM's CARD OF 'edenlaw26.LabKeeps'. -/
def labKeepsUptoCard : Claim7 := { stood := { row := labKeepsUptoRow, standIns := [], harness := (true, "8b0d597747f9a7b5afdc08ef7e5c873f226e9f75263e09fd28557b81e2810c13"), looks := true }, kinds := [], alts := [], laidByText := true, laidKinds := [.handle, .sentinel, .sentinel, .sentinel, .sentinel, .sentinel, .sentinel, .sentinel, .sentinel, .sentinel, .sentinel, .sentinel, .sentinel], laidTests := true, laidLooks := .later }
def LabKeepsUptoCardSaid : Prop := Claim7.holds Tryz.pinned (.plain (OpenSpec.upto labKeepsSpec)) labKeepsUptoCard

/-- THE SECOND FORM's CARD OF 'edenlaw26.LabReports'. -/
def labReportsUptoCard : Claim7 := { stood := { row := labReportsUptoRow, standIns := [], harness := (true, "8b0d597747f9a7b5afdc08ef7e5c873f226e9f75263e09fd28557b81e2810c13"), looks := true }, kinds := [], alts := [], laidByText := true, laidKinds := [.handle, .sentinel, .sentinel, .sentinel, .sentinel, .sentinel, .sentinel, .sentinel, .sentinel, .sentinel, .sentinel, .sentinel, .sentinel], laidTests := true, laidLooks := .later }
def LabReportsUptoCardSaid : Prop := Claim7.holds Tryz.pinned (.plain (OpenSpec.upto labReportsSpec)) labReportsUptoCard

/-- THE SECOND FORM's CARD OF 'edenlaw26.LabBack'. -/
def labBackUptoCard : Claim7 := { stood := { row := labBackUptoRow, standIns := [], harness := (true, "8b0d597747f9a7b5afdc08ef7e5c873f226e9f75263e09fd28557b81e2810c13"), looks := true }, kinds := [], alts := [], laidByText := true, laidKinds := [.handle, .sentinel, .sentinel, .sentinel, .sentinel, .sentinel, .sentinel, .sentinel, .sentinel, .sentinel, .sentinel, .sentinel, .sentinel], laidTests := true, laidLooks := .later }
def LabBackUptoCardSaid : Prop := Claim7.holds Tryz.pinned (.plain (OpenSpec.upto labBackSpec)) labBackUptoCard

/-- THE SECOND FORM's CARD OF 'edenlaw26.LabForms'. -/
def labFormsUptoCard : Claim7 := { stood := { row := labFormsUptoRow, standIns := [], harness := (true, "8b0d597747f9a7b5afdc08ef7e5c873f226e9f75263e09fd28557b81e2810c13"), looks := true }, kinds := [], alts := [], laidByText := true, laidKinds := [.handle, .sentinel, .sentinel, .sentinel, .sentinel, .sentinel, .sentinel, .sentinel, .sentinel, .sentinel, .sentinel, .sentinel, .sentinel], laidTests := true, laidLooks := .later }
def LabFormsUptoCardSaid : Prop := Claim7.holds Tryz.pinned (.plain (OpenSpec.upto labFormsSpec)) labFormsUptoCard

/-- THE SECOND FORM's CARD OF 'edenlaw26.LabKnown'. -/
def labKnownUptoCard : Claim7 := { stood := { row := labKnownUptoRow, standIns := [], harness := (true, "8b0d597747f9a7b5afdc08ef7e5c873f226e9f75263e09fd28557b81e2810c13"), looks := true }, kinds := [], alts := [], laidByText := true, laidKinds := [.handle, .sentinel, .sentinel, .sentinel, .sentinel, .sentinel, .sentinel, .sentinel, .sentinel, .sentinel, .sentinel, .sentinel, .sentinel], laidTests := true, laidLooks := .later }
def LabKnownUptoCardSaid : Prop := Claim7.holds Tryz.pinned (.plain (OpenSpec.upto labKnownSpec)) labKnownUptoCard

/-- THE SECOND FORM's CARD OF 'edenlaw26.LabTexts'. -/
def labTextsUptoCard : Claim7 := { stood := { row := labTextsUptoRow, standIns := [], harness := (true, "8b0d597747f9a7b5afdc08ef7e5c873f226e9f75263e09fd28557b81e2810c13"), looks := true }, kinds := [], alts := [], laidByText := true, laidKinds := [.data, .data, .data, .handle, .sentinel, .sentinel, .sentinel, .sentinel, .sentinel, .sentinel, .sentinel, .sentinel, .sentinel, .sentinel, .sentinel, .sentinel], laidTests := true, laidLooks := .later }
def LabTextsUptoCardSaid : Prop := Claim7.holds Tryz.pinned (.plain (OpenSpec.upto labTextsSpec)) labTextsUptoCard
end Rows
end Go.Proofs.YtncpnaoabkjegaaGreatDoor
