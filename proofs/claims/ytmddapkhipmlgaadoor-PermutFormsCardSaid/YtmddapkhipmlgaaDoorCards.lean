/-
  DERIVED. GIVEN WITH THE SEED: THE CARDS: each row of YtmddapkhipmlgaaDoorRows.lean that lists a variable, with what it lists TIED to the program's text (the seventh form; the later family's looks); each row that meets fmt, with fmt's text TOLD by the authors' own Lean function (tested against real Go, not proved from fmt's source: count such statements apart). THE CARD IS WHAT COUNTS. Prove the row's statement (the work); the ties are given (YtmddapkhipmlgaaDoorTie.lean); close each card by the builder's one call (the guide's Derived/Test/ToyasCard.lean, 'card_holds'). Laid BY PROGRAM, IN A SANDBOX (cutbox-door.mjs). By AI agents, Wed Nov 11 2026. No macro, syntax, notation, axiom, sorry.
-/
import Derived.Test.YtmddapkhipmlgaaDoorRows
import GoSem.ClaimSeven
namespace Go.Proofs.YtmddapkhipmlgaaDoor
namespace Rows

/-- THE TIED CARD OF 'edenlaw18.AddParts'. -/
def addPartsCard : Claim7 := { stood := { row := addPartsRow, standIns := [], harness := (true, "a6326bffabdc00ee0d0634514487eb28c9be5ac36683fe5a61e2c84b717be462"), looks := true }, kinds := [], alts := [], laidByText := true, laidKinds := [.sentinel, .sentinel, .sentinel, .sentinel, .sentinel, .sentinel, .sentinel, .sentinel, .sentinel, .sentinel, .sentinel, .sentinel], laidTests := true, laidLooks := .later }
def AddPartsCardSaid : Prop := Claim7.holds Tryd.pinned (.plain (OpenSpec.ofChange addPartsSpec)) addPartsCard

/-- THE TIED CARD OF 'edenlaw18.AddKeeps'. -/
def addKeepsCard : Claim7 := { stood := { row := addKeepsRow, standIns := [], harness := (true, "a6326bffabdc00ee0d0634514487eb28c9be5ac36683fe5a61e2c84b717be462"), looks := true }, kinds := [], alts := [], laidByText := true, laidKinds := [.sentinel, .sentinel, .sentinel, .sentinel, .sentinel, .sentinel, .sentinel, .sentinel, .sentinel, .sentinel, .sentinel, .sentinel], laidTests := true, laidLooks := .later }
def AddKeepsCardSaid : Prop := Claim7.holds Tryd.pinned (.plain (OpenSpec.ofChange addKeepsSpec)) addKeepsCard

/-- THE TIED CARD OF 'edenlaw19.PermutKeeps'. -/
def permutKeepsCard : Claim7 := { stood := { row := permutKeepsRow, standIns := [], harness := (true, "a6326bffabdc00ee0d0634514487eb28c9be5ac36683fe5a61e2c84b717be462"), looks := true }, kinds := [], alts := [], laidByText := true, laidKinds := [.sentinel, .sentinel, .sentinel, .sentinel, .sentinel, .sentinel, .sentinel, .sentinel, .sentinel, .sentinel, .sentinel, .sentinel], laidTests := true, laidLooks := .later }
def PermutKeepsCardSaid : Prop := Claim7.holds Tryd.pinned (.plain (OpenSpec.ofChange permutKeepsSpec)) permutKeepsCard

/-- THE TIED CARD OF 'edenlaw18.AddSums'. -/
def addSumsCard : Claim7 := { stood := { row := addSumsRow, standIns := [], harness := (true, "a6326bffabdc00ee0d0634514487eb28c9be5ac36683fe5a61e2c84b717be462"), looks := true }, kinds := [], alts := [], laidByText := true, laidKinds := [.sentinel, .sentinel, .sentinel, .sentinel, .sentinel, .sentinel, .sentinel, .sentinel, .sentinel, .sentinel, .sentinel, .sentinel], laidTests := true, laidLooks := .later }
def AddSumsCardSaid : Prop := Claim7.holds Tryd.pinned (.plain (OpenSpec.ofChange addSumsSpec)) addSumsCard

/-- THE TIED CARD OF 'edenlaw19.PermutSolves'. -/
def permutSolvesCard : Claim7 := { stood := { row := permutSolvesRow, standIns := [], harness := (true, "a6326bffabdc00ee0d0634514487eb28c9be5ac36683fe5a61e2c84b717be462"), looks := true }, kinds := [], alts := [], laidByText := true, laidKinds := [.sentinel, .sentinel, .sentinel, .sentinel, .sentinel, .sentinel, .sentinel, .sentinel, .sentinel, .sentinel, .sentinel, .sentinel], laidTests := true, laidLooks := .later }
def PermutSolvesCardSaid : Prop := Claim7.holds Tryd.pinned (.plain (OpenSpec.ofChange permutSolvesSpec)) permutSolvesCard

/-- THE TIED CARD OF 'edenlaw18.AddAll'. -/
def addAllCard : Claim7 := { stood := { row := addAllRow, standIns := [], harness := (true, "a6326bffabdc00ee0d0634514487eb28c9be5ac36683fe5a61e2c84b717be462"), looks := true }, kinds := [], alts := [], laidByText := true, laidKinds := [.handle, .sentinel, .sentinel, .sentinel, .sentinel, .sentinel, .sentinel, .sentinel, .sentinel, .sentinel, .sentinel, .sentinel, .sentinel], laidTests := true, laidLooks := .later }
def AddAllCardSaid : Prop := Claim7.holds Tryd.pinned (.plain (OpenSpec.ofChange addAllSpec)) addAllCard

/-- THE TIED CARD OF 'edenlaw19.PermutAll'. -/
def permutAllCard : Claim7 := { stood := { row := permutAllRow, standIns := [], harness := (true, "a6326bffabdc00ee0d0634514487eb28c9be5ac36683fe5a61e2c84b717be462"), looks := true }, kinds := [], alts := [], laidByText := true, laidKinds := [.handle, .sentinel, .sentinel, .sentinel, .sentinel, .sentinel, .sentinel, .sentinel, .sentinel, .sentinel, .sentinel, .sentinel, .sentinel], laidTests := true, laidLooks := .later }
def PermutAllCardSaid : Prop := Claim7.holds Tryd.pinned (.plain (OpenSpec.ofChange permutAllSpec)) permutAllCard

/-- THE TIED CARD OF 'edenlaw19.PermutForms'. -/
def permutFormsCard : Claim7 := { stood := { row := permutFormsRow, standIns := [], harness := (true, "a6326bffabdc00ee0d0634514487eb28c9be5ac36683fe5a61e2c84b717be462"), looks := true }, kinds := [], alts := [], laidByText := true, laidKinds := [.sentinel, .sentinel, .sentinel, .sentinel, .sentinel, .sentinel, .sentinel, .sentinel, .sentinel, .sentinel, .sentinel, .sentinel], laidTests := true, laidLooks := .later }
def PermutFormsCardSaid : Prop := Claim7.holds Tryd.pinned (.plain (OpenSpec.ofChange permutFormsSpec)) permutFormsCard

/-- THE SECOND FORM's CARD OF 'edenlaw18.AddParts'. -/
def addPartsUptoCard : Claim7 := { stood := { row := addPartsUptoRow, standIns := [], harness := (true, "a6326bffabdc00ee0d0634514487eb28c9be5ac36683fe5a61e2c84b717be462"), looks := true }, kinds := [], alts := [], laidByText := true, laidKinds := [.sentinel, .sentinel, .sentinel, .sentinel, .sentinel, .sentinel, .sentinel, .sentinel, .sentinel, .sentinel, .sentinel, .sentinel], laidTests := true, laidLooks := .later }
def AddPartsUptoCardSaid : Prop := Claim7.holds Tryd.pinned (.plain (OpenSpec.upto addPartsSpec)) addPartsUptoCard

/-- THE SECOND FORM's CARD OF 'edenlaw18.AddKeeps'. -/
def addKeepsUptoCard : Claim7 := { stood := { row := addKeepsUptoRow, standIns := [], harness := (true, "a6326bffabdc00ee0d0634514487eb28c9be5ac36683fe5a61e2c84b717be462"), looks := true }, kinds := [], alts := [], laidByText := true, laidKinds := [.sentinel, .sentinel, .sentinel, .sentinel, .sentinel, .sentinel, .sentinel, .sentinel, .sentinel, .sentinel, .sentinel, .sentinel], laidTests := true, laidLooks := .later }
def AddKeepsUptoCardSaid : Prop := Claim7.holds Tryd.pinned (.plain (OpenSpec.upto addKeepsSpec)) addKeepsUptoCard

/-- THE SECOND FORM's CARD OF 'edenlaw19.PermutKeeps'. -/
def permutKeepsUptoCard : Claim7 := { stood := { row := permutKeepsUptoRow, standIns := [], harness := (true, "a6326bffabdc00ee0d0634514487eb28c9be5ac36683fe5a61e2c84b717be462"), looks := true }, kinds := [], alts := [], laidByText := true, laidKinds := [.sentinel, .sentinel, .sentinel, .sentinel, .sentinel, .sentinel, .sentinel, .sentinel, .sentinel, .sentinel, .sentinel, .sentinel], laidTests := true, laidLooks := .later }
def PermutKeepsUptoCardSaid : Prop := Claim7.holds Tryd.pinned (.plain (OpenSpec.upto permutKeepsSpec)) permutKeepsUptoCard

/-- THE SECOND FORM's CARD OF 'edenlaw18.AddSums'. -/
def addSumsUptoCard : Claim7 := { stood := { row := addSumsUptoRow, standIns := [], harness := (true, "a6326bffabdc00ee0d0634514487eb28c9be5ac36683fe5a61e2c84b717be462"), looks := true }, kinds := [], alts := [], laidByText := true, laidKinds := [.sentinel, .sentinel, .sentinel, .sentinel, .sentinel, .sentinel, .sentinel, .sentinel, .sentinel, .sentinel, .sentinel, .sentinel], laidTests := true, laidLooks := .later }
def AddSumsUptoCardSaid : Prop := Claim7.holds Tryd.pinned (.plain (OpenSpec.upto addSumsSpec)) addSumsUptoCard

/-- THE SECOND FORM's CARD OF 'edenlaw19.PermutSolves'. -/
def permutSolvesUptoCard : Claim7 := { stood := { row := permutSolvesUptoRow, standIns := [], harness := (true, "a6326bffabdc00ee0d0634514487eb28c9be5ac36683fe5a61e2c84b717be462"), looks := true }, kinds := [], alts := [], laidByText := true, laidKinds := [.sentinel, .sentinel, .sentinel, .sentinel, .sentinel, .sentinel, .sentinel, .sentinel, .sentinel, .sentinel, .sentinel, .sentinel], laidTests := true, laidLooks := .later }
def PermutSolvesUptoCardSaid : Prop := Claim7.holds Tryd.pinned (.plain (OpenSpec.upto permutSolvesSpec)) permutSolvesUptoCard

/-- THE SECOND FORM's CARD OF 'edenlaw18.AddAll'. -/
def addAllUptoCard : Claim7 := { stood := { row := addAllUptoRow, standIns := [], harness := (true, "a6326bffabdc00ee0d0634514487eb28c9be5ac36683fe5a61e2c84b717be462"), looks := true }, kinds := [], alts := [], laidByText := true, laidKinds := [.handle, .sentinel, .sentinel, .sentinel, .sentinel, .sentinel, .sentinel, .sentinel, .sentinel, .sentinel, .sentinel, .sentinel, .sentinel], laidTests := true, laidLooks := .later }
def AddAllUptoCardSaid : Prop := Claim7.holds Tryd.pinned (.plain (OpenSpec.upto addAllSpec)) addAllUptoCard

/-- THE SECOND FORM's CARD OF 'edenlaw19.PermutAll'. -/
def permutAllUptoCard : Claim7 := { stood := { row := permutAllUptoRow, standIns := [], harness := (true, "a6326bffabdc00ee0d0634514487eb28c9be5ac36683fe5a61e2c84b717be462"), looks := true }, kinds := [], alts := [], laidByText := true, laidKinds := [.handle, .sentinel, .sentinel, .sentinel, .sentinel, .sentinel, .sentinel, .sentinel, .sentinel, .sentinel, .sentinel, .sentinel, .sentinel], laidTests := true, laidLooks := .later }
def PermutAllUptoCardSaid : Prop := Claim7.holds Tryd.pinned (.plain (OpenSpec.upto permutAllSpec)) permutAllUptoCard

/-- THE SECOND FORM's CARD OF 'edenlaw19.PermutForms'. -/
def permutFormsUptoCard : Claim7 := { stood := { row := permutFormsUptoRow, standIns := [], harness := (true, "a6326bffabdc00ee0d0634514487eb28c9be5ac36683fe5a61e2c84b717be462"), looks := true }, kinds := [], alts := [], laidByText := true, laidKinds := [.sentinel, .sentinel, .sentinel, .sentinel, .sentinel, .sentinel, .sentinel, .sentinel, .sentinel, .sentinel, .sentinel, .sentinel], laidTests := true, laidLooks := .later }
def PermutFormsUptoCardSaid : Prop := Claim7.holds Tryd.pinned (.plain (OpenSpec.upto permutFormsSpec)) permutFormsUptoCard
end Rows
end Go.Proofs.YtmddapkhipmlgaaDoor
