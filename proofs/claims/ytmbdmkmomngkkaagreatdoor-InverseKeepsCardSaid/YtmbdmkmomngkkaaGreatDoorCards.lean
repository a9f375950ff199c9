/-
  DERIVED. GIVEN WITH THE SEED: THE CARDS: each row of YtmbdmkmomngkkaaGreatDoorRows.lean that lists a variable, with what it lists TIED to the program's text (the seventh form; the later family's looks); each row that meets fmt, with fmt's text TOLD by the authors' own Lean function (tested against real Go, not proved from fmt's source: count such statements apart). THE CARD IS WHAT COUNTS. Prove the row's statement (the work); the ties are given (YtmbdmkmomngkkaaGreatDoorTie.lean); close each card by the builder's one call (the guide's Derived/Test/ToyasCard.lean, 'card_holds'). Laid BY PROGRAM, IN A SANDBOX (cutbox-door.mjs). By AI agents, Wed Nov 11 2026. No macro, syntax, notation, axiom, sorry.
-/
import Derived.Test.YtmbdmkmomngkkaaGreatDoorRows
import GoSem.ClaimSeven
namespace Go.Proofs.YtmbdmkmomngkkaaGreatDoor
namespace Rows

/-- THE TIED CARD OF 'edentop.WholeComposed'. -/
def wholeComposedCard : Claim7 := { stood := { row := wholeComposedRow, standIns := [], harness := (true, "02c1a7087d9c5440a86c2a9108bb5515d11afc6198aad5a4d89d7a42326a5c75"), looks := true }, kinds := [], alts := [], laidByText := true, laidKinds := [.handle, .sentinel, .sentinel, .sentinel, .sentinel, .sentinel, .sentinel, .sentinel, .sentinel, .sentinel, .sentinel, .sentinel, .sentinel], laidTests := true, laidLooks := .later }
def WholeComposedCardSaid : Prop := Claim7.holds Tryz.pinned (.plain (OpenSpec.ofChange wholeComposedSpec)) wholeComposedCard

/-- THE TIED CARD OF 'edentop.WholeRings'. -/
def wholeRingsCard : Claim7 := { stood := { row := wholeRingsRow, standIns := [], harness := (true, "02c1a7087d9c5440a86c2a9108bb5515d11afc6198aad5a4d89d7a42326a5c75"), looks := true }, kinds := [], alts := [], laidByText := true, laidKinds := [.handle, .sentinel, .sentinel, .sentinel, .sentinel, .sentinel, .sentinel, .sentinel, .sentinel, .sentinel, .sentinel, .sentinel, .sentinel], laidTests := true, laidLooks := .later }
def WholeRingsCardSaid : Prop := Claim7.holds Tryz.pinned (.plain (OpenSpec.ofChange wholeRingsSpec)) wholeRingsCard

/-- THE TIED CARD OF 'edenlaw20.InverseKeeps'. -/
def inverseKeepsCard : Claim7 := { stood := { row := inverseKeepsRow, standIns := [], harness := (true, "02c1a7087d9c5440a86c2a9108bb5515d11afc6198aad5a4d89d7a42326a5c75"), looks := true }, kinds := [], alts := [], laidByText := true, laidKinds := [.data, .handle, .sentinel, .sentinel, .sentinel, .sentinel, .sentinel, .sentinel, .sentinel, .sentinel, .sentinel, .sentinel, .sentinel, .sentinel, .pinned], laidTests := true, laidLooks := .later }
def InverseKeepsCardSaid : Prop := Claim7.holds Tryz.pinned (.plain (OpenSpec.ofChange inverseKeepsSpec)) inverseKeepsCard

/-- THE TIED CARD OF 'edenlaw20.InverseTells'. -/
def inverseTellsCard : Claim7 := { stood := { row := inverseTellsRow, standIns := [], harness := (true, "02c1a7087d9c5440a86c2a9108bb5515d11afc6198aad5a4d89d7a42326a5c75"), looks := true }, kinds := [], alts := [], laidByText := true, laidKinds := [.data, .handle, .sentinel, .sentinel, .sentinel, .sentinel, .sentinel, .sentinel, .sentinel, .sentinel, .sentinel, .sentinel, .sentinel, .sentinel, .pinned], laidTests := true, laidLooks := .later }
def InverseTellsCardSaid : Prop := Claim7.holds Tryz.pinned (.plain (OpenSpec.ofChange inverseTellsSpec)) inverseTellsCard

/-- THE TIED CARD OF 'edenlaw19.PermutOntos'. -/
def permutOntosCard : Claim7 := { stood := { row := permutOntosRow, standIns := [], harness := (true, "02c1a7087d9c5440a86c2a9108bb5515d11afc6198aad5a4d89d7a42326a5c75"), looks := true }, kinds := [], alts := [], laidByText := true, laidKinds := [.handle, .sentinel, .sentinel, .sentinel, .sentinel, .sentinel, .sentinel, .sentinel, .sentinel, .sentinel, .sentinel, .sentinel, .sentinel], laidTests := true, laidLooks := .later }
def PermutOntosCardSaid : Prop := Claim7.holds Tryz.pinned (.plain (OpenSpec.ofChange permutOntosSpec)) permutOntosCard

/-- THE TIED CARD OF 'edenlaw18.AddOntos'. -/
def addOntosCard : Claim7 := { stood := { row := addOntosRow, standIns := [], harness := (true, "02c1a7087d9c5440a86c2a9108bb5515d11afc6198aad5a4d89d7a42326a5c75"), looks := true }, kinds := [], alts := [], laidByText := true, laidKinds := [.handle, .sentinel, .sentinel, .sentinel, .sentinel, .sentinel, .sentinel, .sentinel, .sentinel, .sentinel, .sentinel, .sentinel, .sentinel], laidTests := true, laidLooks := .later }
def AddOntosCardSaid : Prop := Claim7.holds Tryz.pinned (.plain (OpenSpec.ofChange addOntosSpec)) addOntosCard

/-- THE TIED CARD OF 'edenlaw20.InverseBack'. -/
def inverseBackCard : Claim7 := { stood := { row := inverseBackRow, standIns := [], harness := (true, "02c1a7087d9c5440a86c2a9108bb5515d11afc6198aad5a4d89d7a42326a5c75"), looks := true }, kinds := [], alts := [], laidByText := true, laidKinds := [.data, .handle, .sentinel, .sentinel, .sentinel, .sentinel, .sentinel, .sentinel, .sentinel, .sentinel, .sentinel, .sentinel, .sentinel, .sentinel, .pinned], laidTests := true, laidLooks := .later }
def InverseBackCardSaid : Prop := Claim7.holds Tryz.pinned (.plain (OpenSpec.ofChange inverseBackSpec)) inverseBackCard

/-- THE TIED CARD OF 'edenlaw20.InverseChecks'. -/
def inverseChecksCard : Claim7 := { stood := { row := inverseChecksRow, standIns := [], harness := (true, "02c1a7087d9c5440a86c2a9108bb5515d11afc6198aad5a4d89d7a42326a5c75"), looks := true }, kinds := [], alts := [], laidByText := true, laidKinds := [.data, .handle, .sentinel, .sentinel, .sentinel, .sentinel, .sentinel, .sentinel, .sentinel, .sentinel, .sentinel, .sentinel, .sentinel, .sentinel, .pinned], laidTests := true, laidLooks := .later }
def InverseChecksCardSaid : Prop := Claim7.holds Tryz.pinned (.plain (OpenSpec.ofChange inverseChecksSpec)) inverseChecksCard

/-- THE TIED CARD OF 'edenlaw20.InverseComposes'. -/
def inverseComposesCard : Claim7 := { stood := { row := inverseComposesRow, standIns := [], harness := (true, "02c1a7087d9c5440a86c2a9108bb5515d11afc6198aad5a4d89d7a42326a5c75"), looks := true }, kinds := [], alts := [], laidByText := true, laidKinds := [.data, .handle, .sentinel, .sentinel, .sentinel, .sentinel, .sentinel, .sentinel, .sentinel, .sentinel, .sentinel, .sentinel, .sentinel, .sentinel, .pinned], laidTests := true, laidLooks := .later }
def InverseComposesCardSaid : Prop := Claim7.holds Tryz.pinned (.plain (OpenSpec.ofChange inverseComposesSpec)) inverseComposesCard

/-- THE TIED CARD OF 'edenlaw20.InverseTwice'. -/
def inverseTwiceCard : Claim7 := { stood := { row := inverseTwiceRow, standIns := [], harness := (true, "02c1a7087d9c5440a86c2a9108bb5515d11afc6198aad5a4d89d7a42326a5c75"), looks := true }, kinds := [], alts := [], laidByText := true, laidKinds := [.data, .handle, .sentinel, .sentinel, .sentinel, .sentinel, .sentinel, .sentinel, .sentinel, .sentinel, .sentinel, .sentinel, .sentinel, .sentinel, .pinned], laidTests := true, laidLooks := .later }
def InverseTwiceCardSaid : Prop := Claim7.holds Tryz.pinned (.plain (OpenSpec.ofChange inverseTwiceSpec)) inverseTwiceCard

/-- THE TIED CARD OF 'edentop.WholeLanguages'. -/
def wholeLanguagesCard : Claim7 := { stood := { row := wholeLanguagesRow, standIns := [], harness := (true, "02c1a7087d9c5440a86c2a9108bb5515d11afc6198aad5a4d89d7a42326a5c75"), looks := true }, kinds := [], alts := [], laidByText := true, laidKinds := [.handle, .sentinel, .sentinel, .sentinel, .sentinel, .sentinel, .sentinel, .sentinel, .sentinel, .sentinel, .sentinel, .sentinel, .sentinel], laidTests := true, laidLooks := .later }
def WholeLanguagesCardSaid : Prop := Claim7.holds Tryz.pinned (.plain (OpenSpec.ofChange wholeLanguagesSpec)) wholeLanguagesCard

/-- THE SECOND FORM's CARD OF 'edentop.WholeComposed'. -/
def wholeComposedUptoCard : Claim7 := { stood := { row := wholeComposedUptoRow, standIns := [], harness := (true, "02c1a7087d9c5440a86c2a9108bb5515d11afc6198aad5a4d89d7a42326a5c75"), looks := true }, kinds := [], alts := [], laidByText := true, laidKinds := [.handle, .sentinel, .sentinel, .sentinel, .sentinel, .sentinel, .sentinel, .sentinel, .sentinel, .sentinel, .sentinel, .sentinel, .sentinel], laidTests := true, laidLooks := .later }
def WholeComposedUptoCardSaid : Prop := Claim7.holds Tryz.pinned (.plain (OpenSpec.upto wholeComposedSpec)) wholeComposedUptoCard

/-- THE SECOND FORM's CARD OF 'edentop.WholeRings'. -/
def wholeRingsUptoCard : Claim7 := { stood := { row := wholeRingsUptoRow, standIns := [], harness := (true, "02c1a7087d9c5440a86c2a9108bb5515d11afc6198aad5a4d89d7a42326a5c75"), looks := true }, kinds := [], alts := [], laidByText := true, laidKinds := [.handle, .sentinel, .sentinel, .sentinel, .sentinel, .sentinel, .sentinel, .sentinel, .sentinel, .sentinel, .sentinel, .sentinel, .sentinel], laidTests := true, laidLooks := .later }
def WholeRingsUptoCardSaid : Prop := Claim7.holds Tryz.pinned (.plain (OpenSpec.upto wholeRingsSpec)) wholeRingsUptoCard

/-- THE SECOND FORM's CARD OF 'edenlaw20.InverseKeeps'. -/
def inverseKeepsUptoCard : Claim7 := { stood := { row := inverseKeepsUptoRow, standIns := [], harness := (true, "02c1a7087d9c5440a86c2a9108bb5515d11afc6198aad5a4d89d7a42326a5c75"), looks := true }, kinds := [], alts := [], laidByText := true, laidKinds := [.data, .handle, .sentinel, .sentinel, .sentinel, .sentinel, .sentinel, .sentinel, .sentinel, .sentinel, .sentinel, .sentinel, .sentinel, .sentinel, .pinned], laidTests := true, laidLooks := .later }
def InverseKeepsUptoCardSaid : Prop := Claim7.holds Tryz.pinned (.plain (OpenSpec.upto inverseKeepsSpec)) inverseKeepsUptoCard

/-- THE SECOND FORM's CARD OF 'edenlaw20.InverseTells'. -/
def inverseTellsUptoCard : Claim7 := { stood := { row := inverseTellsUptoRow, standIns := [], harness := (true, "02c1a7087d9c5440a86c2a9108bb5515d11afc6198aad5a4d89d7a42326a5c75"), looks := true }, kinds := [], alts := [], laidByText := true, laidKinds := [.data, .handle, .sentinel, .sentinel, .sentinel, .sentinel, .sentinel, .sentinel, .sentinel, .sentinel, .sentinel, .sentinel, .sentinel, .sentinel, .pinned], laidTests := true, laidLooks := .later }
def InverseTellsUptoCardSaid : Prop := Claim7.holds Tryz.pinned (.plain (OpenSpec.upto inverseTellsSpec)) inverseTellsUptoCard

/-- THE SECOND FORM's CARD OF 'edenlaw19.PermutOntos'. -/
def permutOntosUptoCard : Claim7 := { stood := { row := permutOntosUptoRow, standIns := [], harness := (true, "02c1a7087d9c5440a86c2a9108bb5515d11afc6198aad5a4d89d7a42326a5c75"), looks := true }, kinds := [], alts := [], laidByText := true, laidKinds := [.handle, .sentinel, .sentinel, .sentinel, .sentinel, .sentinel, .sentinel, .sentinel, .sentinel, .sentinel, .sentinel, .sentinel, .sentinel], laidTests := true, laidLooks := .later }
def PermutOntosUptoCardSaid : Prop := Claim7.holds Tryz.pinned (.plain (OpenSpec.upto permutOntosSpec)) permutOntosUptoCard

/-- THE SECOND FORM's CARD OF 'edenlaw18.AddOntos'. -/
def addOntosUptoCard : Claim7 := { stood := { row := addOntosUptoRow, standIns := [], harness := (true, "02c1a7087d9c5440a86c2a9108bb5515d11afc6198aad5a4d89d7a42326a5c75"), looks := true }, kinds := [], alts := [], laidByText := true, laidKinds := [.handle, .sentinel, .sentinel, .sentinel, .sentinel, .sentinel, .sentinel, .sentinel, .sentinel, .sentinel, .sentinel, .sentinel, .sentinel], laidTests := true, laidLooks := .later }
def AddOntosUptoCardSaid : Prop := Claim7.holds Tryz.pinned (.plain (OpenSpec.upto addOntosSpec)) addOntosUptoCard

/-- THE SECOND FORM's CARD OF 'edenlaw20.InverseBack'. -/
def inverseBackUptoCard : Claim7 := { stood := { row := inverseBackUptoRow, standIns := [], harness := (true, "02c1a7087d9c5440a86c2a9108bb5515d11afc6198aad5a4d89d7a42326a5c75"), looks := true }, kinds := [], alts := [], laidByText := true, laidKinds := [.data, .handle, .sentinel, .sentinel, .sentinel, .sentinel, .sentinel, .sentinel, .sentinel, .sentinel, .sentinel, .sentinel, .sentinel, .sentinel, .pinned], laidTests := true, laidLooks := .later }
def InverseBackUptoCardSaid : Prop := Claim7.holds Tryz.pinned (.plain (OpenSpec.upto inverseBackSpec)) inverseBackUptoCard

/-- THE SECOND FORM's CARD OF 'edenlaw20.InverseChecks'. -/
def inverseChecksUptoCard : Claim7 := { stood := { row := inverseChecksUptoRow, standIns := [], harness := (true, "02c1a7087d9c5440a86c2a9108bb5515d11afc6198aad5a4d89d7a42326a5c75"), looks := true }, kinds := [], alts := [], laidByText := true, laidKinds := [.data, .handle, .sentinel, .sentinel, .sentinel, .sentinel, .sentinel, .sentinel, .sentinel, .sentinel, .sentinel, .sentinel, .sentinel, .sentinel, .pinned], laidTests := true, laidLooks := .later }
def InverseChecksUptoCardSaid : Prop := Claim7.holds Tryz.pinned (.plain (OpenSpec.upto inverseChecksSpec)) inverseChecksUptoCard

/-- THE SECOND FORM's CARD OF 'edenlaw20.InverseComposes'. -/
def inverseComposesUptoCard : Claim7 := { stood := { row := inverseComposesUptoRow, standIns := [], harness := (true, "02c1a7087d9c5440a86c2a9108bb5515d11afc6198aad5a4d89d7a42326a5c75"), looks := true }, kinds := [], alts := [], laidByText := true, laidKinds := [.data, .handle, .sentinel, .sentinel, .sentinel, .sentinel, .sentinel, .sentinel, .sentinel, .sentinel, .sentinel, .sentinel, .sentinel, .sentinel, .pinned], laidTests := true, laidLooks := .later }
def InverseComposesUptoCardSaid : Prop := Claim7.holds Tryz.pinned (.plain (OpenSpec.upto inverseComposesSpec)) inverseComposesUptoCard

/-- THE SECOND FORM's CARD OF 'edenlaw20.InverseTwice'. -/
def inverseTwiceUptoCard : Claim7 := { stood := { row := inverseTwiceUptoRow, standIns := [], harness := (true, "02c1a7087d9c5440a86c2a9108bb5515d11afc6198aad5a4d89d7a42326a5c75"), looks := true }, kinds := [], alts := [], laidByText := true, laidKinds := [.data, .handle, .sentinel, .sentinel, .sentinel, .sentinel, .sentinel, .sentinel, .sentinel, .sentinel, .sentinel, .sentinel, .sentinel, .sentinel, .pinned], laidTests := true, laidLooks := .later }
def InverseTwiceUptoCardSaid : Prop := Claim7.holds Tryz.pinned (.plain (OpenSpec.upto inverseTwiceSpec)) inverseTwiceUptoCard

/-- THE SECOND FORM's CARD OF 'edentop.WholeLanguages'. -/
def wholeLanguagesUptoCard : Claim7 := { stood := { row := wholeLanguagesUptoRow, standIns := [], harness := (true, "02c1a7087d9c5440a86c2a9108bb5515d11afc6198aad5a4d89d7a42326a5c75"), looks := true }, kinds := [], alts := [], laidByText := true, laidKinds := [.handle, .sentinel, .sentinel, .sentinel, .sentinel, .sentinel, .sentinel, .sentinel, .sentinel, .sentinel, .sentinel, .sentinel, .sentinel], laidTests := true, laidLooks := .later }
def WholeLanguagesUptoCardSaid : Prop := Claim7.holds Tryz.pinned (.plain (OpenSpec.upto wholeLanguagesSpec)) wholeLanguagesUptoCard
end Rows
end Go.Proofs.YtmbdmkmomngkkaaGreatDoor
