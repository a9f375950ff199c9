/-
  DERIVED. GIVEN WITH THE SEED: THE CARDS: each row of YtbpdmpcakenjhaaDoorRows.lean that lists a variable, with what it lists TIED to the program's text (the seventh form; the later family's looks); each row that meets fmt, with fmt's text TOLD by the authors' own Lean function (tested against real Go, not proved from fmt's source: count such statements apart). THE CARD IS WHAT COUNTS. Prove the row's statement (the work); the ties are given (YtbpdmpcakenjhaaDoorTie.lean); close each card by the builder's one call (the guide's Derived/Test/ToyasCard.lean, 'card_holds'). Laid BY PROGRAM, IN A SANDBOX (cutbox-door.mjs). By AI agents, Wed Nov 11 2026. No macro, syntax, notation, axiom, sorry.
-/
import Derived.Test.YtbpdmpcakenjhaaDoorRows
import GoSem.ClaimSeven
namespace Go.Proofs.YtbpdmpcakenjhaaDoor
namespace Rows

/-- THE TIED CARD OF 'edenlaw19.PermutSolves'. -/
def permutSolvesCard : Claim7 := { stood := { row := permutSolvesRow, standIns := [], harness := (true, "33a4285738ef8d53f5a58bb57e0cc714772311f9b58a67c0fbb27a50e58f0044"), looks := true }, kinds := [], alts := [], laidByText := true, laidKinds := [.sentinel, .sentinel, .sentinel, .sentinel, .sentinel, .sentinel, .sentinel, .sentinel, .sentinel, .sentinel, .sentinel, .sentinel], laidTests := true, laidLooks := .later }
def PermutSolvesCardSaid : Prop := Claim7.holds Tryd.pinned (.plain (OpenSpec.ofChange permutSolvesSpec)) permutSolvesCard

/-- THE TIED CARD OF 'edenlaw12.GraphGoes'. -/
def graphGoesCard : Claim7 := { stood := { row := graphGoesRow, standIns := [], harness := (true, "33a4285738ef8d53f5a58bb57e0cc714772311f9b58a67c0fbb27a50e58f0044"), looks := true }, kinds := [], alts := [], laidByText := true, laidKinds := [.sentinel, .sentinel, .sentinel, .sentinel, .sentinel, .sentinel, .sentinel, .sentinel, .sentinel, .sentinel, .sentinel, .sentinel], laidTests := true, laidLooks := .later }
def GraphGoesCardSaid : Prop := Claim7.holds Tryd.pinned (.plain (OpenSpec.ofChange graphGoesSpec)) graphGoesCard

/-- THE TIED CARD OF 'edenlaw12.GraphLives'. -/
def graphLivesCard : Claim7 := { stood := { row := graphLivesRow, standIns := [], harness := (true, "33a4285738ef8d53f5a58bb57e0cc714772311f9b58a67c0fbb27a50e58f0044"), looks := true }, kinds := [], alts := [], laidByText := true, laidKinds := [.sentinel, .sentinel, .sentinel, .sentinel, .sentinel, .sentinel, .sentinel, .sentinel, .sentinel, .sentinel, .sentinel, .sentinel], laidTests := true, laidLooks := .later }
def GraphLivesCardSaid : Prop := Claim7.holds Tryd.pinned (.plain (OpenSpec.ofChange graphLivesSpec)) graphLivesCard

/-- THE TIED CARD OF 'edenlaw12.GraphKeeps'. -/
def graphKeepsCard : Claim7 := { stood := { row := graphKeepsRow, standIns := [], harness := (true, "33a4285738ef8d53f5a58bb57e0cc714772311f9b58a67c0fbb27a50e58f0044"), looks := true }, kinds := [], alts := [], laidByText := true, laidKinds := [.sentinel, .sentinel, .sentinel, .sentinel, .sentinel, .sentinel, .sentinel, .sentinel, .sentinel, .sentinel, .sentinel, .sentinel], laidTests := true, laidLooks := .later }
def GraphKeepsCardSaid : Prop := Claim7.holds Tryd.pinned (.plain (OpenSpec.ofChange graphKeepsSpec)) graphKeepsCard

/-- THE TIED CARD OF 'edenlaw12.GraphParts'. -/
def graphPartsCard : Claim7 := { stood := { row := graphPartsRow, standIns := [], harness := (true, "33a4285738ef8d53f5a58bb57e0cc714772311f9b58a67c0fbb27a50e58f0044"), looks := true }, kinds := [], alts := [], laidByText := true, laidKinds := [.handle, .sentinel, .sentinel, .sentinel, .sentinel, .sentinel, .sentinel, .sentinel, .sentinel, .sentinel, .sentinel, .sentinel, .sentinel], laidTests := true, laidLooks := .later }
def GraphPartsCardSaid : Prop := Claim7.holds Tryd.pinned (.plain (OpenSpec.ofChange graphPartsSpec)) graphPartsCard

/-- THE TIED CARD OF 'edenlaw12.GraphWays'. -/
def graphWaysCard : Claim7 := { stood := { row := graphWaysRow, standIns := [], harness := (true, "33a4285738ef8d53f5a58bb57e0cc714772311f9b58a67c0fbb27a50e58f0044"), looks := true }, kinds := [], alts := [], laidByText := true, laidKinds := [.handle, .sentinel, .sentinel, .sentinel, .sentinel, .sentinel, .sentinel, .sentinel, .sentinel, .sentinel, .sentinel, .sentinel, .sentinel], laidTests := true, laidLooks := .later }
def GraphWaysCardSaid : Prop := Claim7.holds Tryd.pinned (.plain (OpenSpec.ofChange graphWaysSpec)) graphWaysCard

/-- THE SECOND FORM's CARD OF 'edenlaw19.PermutSolves'. -/
def permutSolvesUptoCard : Claim7 := { stood := { row := permutSolvesUptoRow, standIns := [], harness := (true, "33a4285738ef8d53f5a58bb57e0cc714772311f9b58a67c0fbb27a50e58f0044"), looks := true }, kinds := [], alts := [], laidByText := true, laidKinds := [.sentinel, .sentinel, .sentinel, .sentinel, .sentinel, .sentinel, .sentinel, .sentinel, .sentinel, .sentinel, .sentinel, .sentinel], laidTests := true, laidLooks := .later }
def PermutSolvesUptoCardSaid : Prop := Claim7.holds Tryd.pinned (.plain (OpenSpec.upto permutSolvesSpec)) permutSolvesUptoCard

/-- THE SECOND FORM's CARD OF 'edenlaw12.GraphGoes'. -/
def graphGoesUptoCard : Claim7 := { stood := { row := graphGoesUptoRow, standIns := [], harness := (true, "33a4285738ef8d53f5a58bb57e0cc714772311f9b58a67c0fbb27a50e58f0044"), looks := true }, kinds := [], alts := [], laidByText := true, laidKinds := [.sentinel, .sentinel, .sentinel, .sentinel, .sentinel, .sentinel, .sentinel, .sentinel, .sentinel, .sentinel, .sentinel, .sentinel], laidTests := true, laidLooks := .later }
def GraphGoesUptoCardSaid : Prop := Claim7.holds Tryd.pinned (.plain (OpenSpec.upto graphGoesSpec)) graphGoesUptoCard

/-- THE SECOND FORM's CARD OF 'edenlaw12.GraphLives'. -/
def graphLivesUptoCard : Claim7 := { stood := { row := graphLivesUptoRow, standIns := [], harness := (true, "33a4285738ef8d53f5a58bb57e0cc714772311f9b58a67c0fbb27a50e58f0044"), looks := true }, kinds := [], alts := [], laidByText := true, laidKinds := [.sentinel, .sentinel, .sentinel, .sentinel, .sentinel, .sentinel, .sentinel, .sentinel, .sentinel, .sentinel, .sentinel, .sentinel], laidTests := true, laidLooks := .later }
def GraphLivesUptoCardSaid : Prop := Claim7.holds Tryd.pinned (.plain (OpenSpec.upto graphLivesSpec)) graphLivesUptoCard

/-- THE SECOND FORM's CARD OF 'edenlaw12.GraphKeeps'. -/
def graphKeepsUptoCard : Claim7 := { stood := { row := graphKeepsUptoRow, standIns := [], harness := (true, "33a4285738ef8d53f5a58bb57e0cc714772311f9b58a67c0fbb27a50e58f0044"), looks := true }, kinds := [], alts := [], laidByText := true, laidKinds := [.sentinel, .sentinel, .sentinel, .sentinel, .sentinel, .sentinel, .sentinel, .sentinel, .sentinel, .sentinel, .sentinel, .sentinel], laidTests := true, laidLooks := .later }
def GraphKeepsUptoCardSaid : Prop := Claim7.holds Tryd.pinned (.plain (OpenSpec.upto graphKeepsSpec)) graphKeepsUptoCard

/-- THE SECOND FORM's CARD OF 'edenlaw12.GraphParts'. -/
def graphPartsUptoCard : Claim7 := { stood := { row := graphPartsUptoRow, standIns := [], harness := (true, "33a4285738ef8d53f5a58bb57e0cc714772311f9b58a67c0fbb27a50e58f0044"), looks := true }, kinds := [], alts := [], laidByText := true, laidKinds := [.handle, .sentinel, .sentinel, .sentinel, .sentinel, .sentinel, .sentinel, .sentinel, .sentinel, .sentinel, .sentinel, .sentinel, .sentinel], laidTests := true, laidLooks := .later }
def GraphPartsUptoCardSaid : Prop := Claim7.holds Tryd.pinned (.plain (OpenSpec.upto graphPartsSpec)) graphPartsUptoCard

/-- THE SECOND FORM's CARD OF 'edenlaw12.GraphWays'. -/
def graphWaysUptoCard : Claim7 := { stood := { row := graphWaysUptoRow, standIns := [], harness := (true, "33a4285738ef8d53f5a58bb57e0cc714772311f9b58a67c0fbb27a50e58f0044"), looks := true }, kinds := [], alts := [], laidByText := true, laidKinds := [.handle, .sentinel, .sentinel, .sentinel, .sentinel, .sentinel, .sentinel, .sentinel, .sentinel, .sentinel, .sentinel, .sentinel, .sentinel], laidTests := true, laidLooks := .later }
def GraphWaysUptoCardSaid : Prop := Claim7.holds Tryd.pinned (.plain (OpenSpec.upto graphWaysSpec)) graphWaysUptoCard
end Rows
end Go.Proofs.YtbpdmpcakenjhaaDoor
