/-
  DERIVED. GIVEN WITH THE SEED: THE CARDS: each row of YtdldadgnggaopaaDoorRows.lean that lists a variable, with what it lists TIED to the program's text (the seventh form; the later family's looks); each row that meets fmt, with fmt's text TOLD by the authors' own Lean function (tested against real Go, not proved from fmt's source: count such statements apart). THE CARD IS WHAT COUNTS. Prove the row's statement (the work); the ties are given (YtdldadgnggaopaaDoorTie.lean); close each card by the builder's one call (the guide's Derived/Test/ToyasCard.lean, 'card_holds'). Laid BY PROGRAM, IN A SANDBOX (cutbox-door.mjs). By AI agents, Wed Nov 11 2026. No macro, syntax, notation, axiom, sorry.
-/
import Derived.Test.YtdldadgnggaopaaDoorRows
import GoSem.ClaimSeven
namespace Go.Proofs.YtdldadgnggaopaaDoor
namespace Rows

/-- THE TIED CARD OF 'edenlaw15.TwinsKeeps'. -/
def twinsKeepsCard : Claim7 := { stood := { row := twinsKeepsRow, standIns := [], harness := (true, "ce20ffcd29f7a10c48e1c16c0893553beba230bc91a5826a0bdd1814ed73fcda"), looks := true }, kinds := [], alts := [], laidByText := true, laidKinds := [.sentinel, .sentinel, .sentinel, .sentinel, .sentinel, .sentinel, .sentinel, .sentinel, .sentinel, .sentinel, .sentinel, .sentinel], laidTests := true, laidLooks := .later }
def TwinsKeepsCardSaid : Prop := Claim7.holds Tryd.pinned (.plain (OpenSpec.ofChange twinsKeepsSpec)) twinsKeepsCard

/-- THE TIED CARD OF 'edenlaw13.PairsTurn'. -/
def pairsTurnCard : Claim7 := { stood := { row := pairsTurnRow, standIns := [], harness := (true, "ce20ffcd29f7a10c48e1c16c0893553beba230bc91a5826a0bdd1814ed73fcda"), looks := true }, kinds := [], alts := [], laidByText := true, laidKinds := [.sentinel, .sentinel, .sentinel, .sentinel, .sentinel, .sentinel, .sentinel, .sentinel, .sentinel, .sentinel, .sentinel, .sentinel], laidTests := true, laidLooks := .later }
def PairsTurnCardSaid : Prop := Claim7.holds Tryd.pinned (.plain (OpenSpec.ofChange pairsTurnSpec)) pairsTurnCard

/-- THE TIED CARD OF 'edenlaw12.GraphParts'. -/
def graphPartsCard : Claim7 := { stood := { row := graphPartsRow, standIns := [], harness := (true, "ce20ffcd29f7a10c48e1c16c0893553beba230bc91a5826a0bdd1814ed73fcda"), looks := true }, kinds := [], alts := [], laidByText := true, laidKinds := [.handle, .sentinel, .sentinel, .sentinel, .sentinel, .sentinel, .sentinel, .sentinel, .sentinel, .sentinel, .sentinel, .sentinel, .sentinel], laidTests := true, laidLooks := .later }
def GraphPartsCardSaid : Prop := Claim7.holds Tryd.pinned (.plain (OpenSpec.ofChange graphPartsSpec)) graphPartsCard

/-- THE TIED CARD OF 'edenlaw12.GraphWays'. -/
def graphWaysCard : Claim7 := { stood := { row := graphWaysRow, standIns := [], harness := (true, "ce20ffcd29f7a10c48e1c16c0893553beba230bc91a5826a0bdd1814ed73fcda"), looks := true }, kinds := [], alts := [], laidByText := true, laidKinds := [.handle, .sentinel, .sentinel, .sentinel, .sentinel, .sentinel, .sentinel, .sentinel, .sentinel, .sentinel, .sentinel, .sentinel, .sentinel], laidTests := true, laidLooks := .later }
def GraphWaysCardSaid : Prop := Claim7.holds Tryd.pinned (.plain (OpenSpec.ofChange graphWaysSpec)) graphWaysCard

/-- THE TIED CARD OF 'edenlaw15.TwinsForms'. -/
def twinsFormsCard : Claim7 := { stood := { row := twinsFormsRow, standIns := [], harness := (true, "ce20ffcd29f7a10c48e1c16c0893553beba230bc91a5826a0bdd1814ed73fcda"), looks := true }, kinds := [], alts := [], laidByText := true, laidKinds := [.sentinel, .sentinel, .sentinel, .sentinel, .sentinel, .sentinel, .sentinel, .sentinel, .sentinel, .sentinel, .sentinel, .sentinel], laidTests := true, laidLooks := .later }
def TwinsFormsCardSaid : Prop := Claim7.holds Tryd.pinned (.plain (OpenSpec.ofChange twinsFormsSpec)) twinsFormsCard

/-- THE TIED CARD OF 'edenlaw15.TwinsStand'. -/
def twinsStandCard : Claim7 := { stood := { row := twinsStandRow, standIns := [], harness := (true, "ce20ffcd29f7a10c48e1c16c0893553beba230bc91a5826a0bdd1814ed73fcda"), looks := true }, kinds := [], alts := [], laidByText := true, laidKinds := [.sentinel, .sentinel, .sentinel, .sentinel, .sentinel, .sentinel, .sentinel, .sentinel, .sentinel, .sentinel, .sentinel, .sentinel], laidTests := true, laidLooks := .later }
def TwinsStandCardSaid : Prop := Claim7.holds Tryd.pinned (.plain (OpenSpec.ofChange twinsStandSpec)) twinsStandCard

/-- THE TIED CARD OF 'edenlaw13.PairsKeeps'. -/
def pairsKeepsCard : Claim7 := { stood := { row := pairsKeepsRow, standIns := [], harness := (true, "ce20ffcd29f7a10c48e1c16c0893553beba230bc91a5826a0bdd1814ed73fcda"), looks := true }, kinds := [], alts := [], laidByText := true, laidKinds := [.sentinel, .sentinel, .sentinel, .sentinel, .sentinel, .sentinel, .sentinel, .sentinel, .sentinel, .sentinel, .sentinel, .sentinel], laidTests := true, laidLooks := .later }
def PairsKeepsCardSaid : Prop := Claim7.holds Tryd.pinned (.plain (OpenSpec.ofChange pairsKeepsSpec)) pairsKeepsCard

/-- THE TIED CARD OF 'edenlaw13.PairsMeet'. -/
def pairsMeetCard : Claim7 := { stood := { row := pairsMeetRow, standIns := [], harness := (true, "ce20ffcd29f7a10c48e1c16c0893553beba230bc91a5826a0bdd1814ed73fcda"), looks := true }, kinds := [], alts := [], laidByText := true, laidKinds := [.sentinel, .sentinel, .sentinel, .sentinel, .sentinel, .sentinel, .sentinel, .sentinel, .sentinel, .sentinel, .sentinel, .sentinel], laidTests := true, laidLooks := .later }
def PairsMeetCardSaid : Prop := Claim7.holds Tryd.pinned (.plain (OpenSpec.ofChange pairsMeetSpec)) pairsMeetCard

/-- THE SECOND FORM's CARD OF 'edenlaw15.TwinsKeeps'. -/
def twinsKeepsUptoCard : Claim7 := { stood := { row := twinsKeepsUptoRow, standIns := [], harness := (true, "ce20ffcd29f7a10c48e1c16c0893553beba230bc91a5826a0bdd1814ed73fcda"), looks := true }, kinds := [], alts := [], laidByText := true, laidKinds := [.sentinel, .sentinel, .sentinel, .sentinel, .sentinel, .sentinel, .sentinel, .sentinel, .sentinel, .sentinel, .sentinel, .sentinel], laidTests := true, laidLooks := .later }
def TwinsKeepsUptoCardSaid : Prop := Claim7.holds Tryd.pinned (.plain (OpenSpec.upto twinsKeepsSpec)) twinsKeepsUptoCard

/-- THE SECOND FORM's CARD OF 'edenlaw13.PairsTurn'. -/
def pairsTurnUptoCard : Claim7 := { stood := { row := pairsTurnUptoRow, standIns := [], harness := (true, "ce20ffcd29f7a10c48e1c16c0893553beba230bc91a5826a0bdd1814ed73fcda"), looks := true }, kinds := [], alts := [], laidByText := true, laidKinds := [.sentinel, .sentinel, .sentinel, .sentinel, .sentinel, .sentinel, .sentinel, .sentinel, .sentinel, .sentinel, .sentinel, .sentinel], laidTests := true, laidLooks := .later }
def PairsTurnUptoCardSaid : Prop := Claim7.holds Tryd.pinned (.plain (OpenSpec.upto pairsTurnSpec)) pairsTurnUptoCard

/-- THE SECOND FORM's CARD OF 'edenlaw12.GraphParts'. -/
def graphPartsUptoCard : Claim7 := { stood := { row := graphPartsUptoRow, standIns := [], harness := (true, "ce20ffcd29f7a10c48e1c16c0893553beba230bc91a5826a0bdd1814ed73fcda"), looks := true }, kinds := [], alts := [], laidByText := true, laidKinds := [.handle, .sentinel, .sentinel, .sentinel, .sentinel, .sentinel, .sentinel, .sentinel, .sentinel, .sentinel, .sentinel, .sentinel, .sentinel], laidTests := true, laidLooks := .later }
def GraphPartsUptoCardSaid : Prop := Claim7.holds Tryd.pinned (.plain (OpenSpec.upto graphPartsSpec)) graphPartsUptoCard

/-- THE SECOND FORM's CARD OF 'edenlaw12.GraphWays'. -/
def graphWaysUptoCard : Claim7 := { stood := { row := graphWaysUptoRow, standIns := [], harness := (true, "ce20ffcd29f7a10c48e1c16c0893553beba230bc91a5826a0bdd1814ed73fcda"), looks := true }, kinds := [], alts := [], laidByText := true, laidKinds := [.handle, .sentinel, .sentinel, .sentinel, .sentinel, .sentinel, .sentinel, .sentinel, .sentinel, .sentinel, .sentinel, .sentinel, .sentinel], laidTests := true, laidLooks := .later }
def GraphWaysUptoCardSaid : Prop := Claim7.holds Tryd.pinned (.plain (OpenSpec.upto graphWaysSpec)) graphWaysUptoCard

/-- THE SECOND FORM's CARD OF 'edenlaw15.TwinsForms'. -/
def twinsFormsUptoCard : Claim7 := { stood := { row := twinsFormsUptoRow, standIns := [], harness := (true, "ce20ffcd29f7a10c48e1c16c0893553beba230bc91a5826a0bdd1814ed73fcda"), looks := true }, kinds := [], alts := [], laidByText := true, laidKinds := [.sentinel, .sentinel, .sentinel, .sentinel, .sentinel, .sentinel, .sentinel, .sentinel, .sentinel, .sentinel, .sentinel, .sentinel], laidTests := true, laidLooks := .later }
def TwinsFormsUptoCardSaid : Prop := Claim7.holds Tryd.pinned (.plain (OpenSpec.upto twinsFormsSpec)) twinsFormsUptoCard

/-- THE SECOND FORM's CARD OF 'edenlaw15.TwinsStand'. -/
def twinsStandUptoCard : Claim7 := { stood := { row := twinsStandUptoRow, standIns := [], harness := (true, "ce20ffcd29f7a10c48e1c16c0893553beba230bc91a5826a0bdd1814ed73fcda"), looks := true }, kinds := [], alts := [], laidByText := true, laidKinds := [.sentinel, .sentinel, .sentinel, .sentinel, .sentinel, .sentinel, .sentinel, .sentinel, .sentinel, .sentinel, .sentinel, .sentinel], laidTests := true, laidLooks := .later }
def TwinsStandUptoCardSaid : Prop := Claim7.holds Tryd.pinned (.plain (OpenSpec.upto twinsStandSpec)) twinsStandUptoCard

/-- THE SECOND FORM's CARD OF 'edenlaw13.PairsKeeps'. -/
def pairsKeepsUptoCard : Claim7 := { stood := { row := pairsKeepsUptoRow, standIns := [], harness := (true, "ce20ffcd29f7a10c48e1c16c0893553beba230bc91a5826a0bdd1814ed73fcda"), looks := true }, kinds := [], alts := [], laidByText := true, laidKinds := [.sentinel, .sentinel, .sentinel, .sentinel, .sentinel, .sentinel, .sentinel, .sentinel, .sentinel, .sentinel, .sentinel, .sentinel], laidTests := true, laidLooks := .later }
def PairsKeepsUptoCardSaid : Prop := Claim7.holds Tryd.pinned (.plain (OpenSpec.upto pairsKeepsSpec)) pairsKeepsUptoCard

/-- THE SECOND FORM's CARD OF 'edenlaw13.PairsMeet'. -/
def pairsMeetUptoCard : Claim7 := { stood := { row := pairsMeetUptoRow, standIns := [], harness := (true, "ce20ffcd29f7a10c48e1c16c0893553beba230bc91a5826a0bdd1814ed73fcda"), looks := true }, kinds := [], alts := [], laidByText := true, laidKinds := [.sentinel, .sentinel, .sentinel, .sentinel, .sentinel, .sentinel, .sentinel, .sentinel, .sentinel, .sentinel, .sentinel, .sentinel], laidTests := true, laidLooks := .later }
def PairsMeetUptoCardSaid : Prop := Claim7.holds Tryd.pinned (.plain (OpenSpec.upto pairsMeetSpec)) pairsMeetUptoCard
end Rows
end Go.Proofs.YtdldadgnggaopaaDoor
