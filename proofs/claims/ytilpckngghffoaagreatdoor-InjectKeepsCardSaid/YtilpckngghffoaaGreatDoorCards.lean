/-
  DERIVED. GIVEN WITH THE SEED: THE CARDS: each row of YtilpckngghffoaaGreatDoorRows.lean that lists a variable, with what it lists TIED to the program's text (the seventh form; the later family's looks); each row that meets fmt, with fmt's text TOLD by the authors' own Lean function (tested against real Go, not proved from fmt's source: count such statements apart). THE CARD IS WHAT COUNTS. Prove the row's statement (the work); the ties are given (YtilpckngghffoaaGreatDoorTie.lean); close each card by the builder's one call (the guide's Derived/Test/ToyasCard.lean, 'card_holds'). Laid BY PROGRAM, IN A SANDBOX (cutbox-door.mjs). By AI agents, Wed Nov 11 2026. No macro, syntax, notation, axiom, sorry.
-/
import Derived.Test.YtilpckngghffoaaGreatDoorRows
import GoSem.ClaimSeven
namespace Go.Proofs.YtilpckngghffoaaGreatDoor
namespace Rows

/-- THE TIED CARD OF 'edenlaw15.TwinsTells'. -/
def twinsTellsCard : Claim7 := { stood := { row := twinsTellsRow, standIns := [], harness := (true, "022fb10588d12298ab7f2ab5dfc463dee782f5599b1353a793184428177afdff"), looks := true }, kinds := [], alts := [], laidByText := true, laidKinds := [.handle, .sentinel, .sentinel, .sentinel, .sentinel, .sentinel, .sentinel, .sentinel, .sentinel, .sentinel, .sentinel, .sentinel, .sentinel], laidTests := true, laidLooks := .later }
def TwinsTellsCardSaid : Prop := Claim7.holds Tryz.pinned (.plain (OpenSpec.ofChange twinsTellsSpec)) twinsTellsCard

/-- THE TIED CARD OF 'edenlaw14.InjectKeeps'. -/
def injectKeepsCard : Claim7 := { stood := { row := injectKeepsRow, standIns := [], harness := (true, "022fb10588d12298ab7f2ab5dfc463dee782f5599b1353a793184428177afdff"), looks := true }, kinds := [], alts := [], laidByText := true, laidKinds := [.sentinel, .sentinel, .sentinel, .sentinel, .sentinel, .sentinel, .sentinel, .sentinel, .sentinel, .sentinel, .sentinel, .sentinel], laidTests := true, laidLooks := .later }
def InjectKeepsCardSaid : Prop := Claim7.holds Tryz.pinned (.plain (OpenSpec.ofChange injectKeepsSpec)) injectKeepsCard

/-- THE TIED CARD OF 'edenlaw13.PairsWords'. -/
def pairsWordsCard : Claim7 := { stood := { row := pairsWordsRow, standIns := [], harness := (true, "022fb10588d12298ab7f2ab5dfc463dee782f5599b1353a793184428177afdff"), looks := true }, kinds := [], alts := [], laidByText := true, laidKinds := [.handle, .sentinel, .sentinel, .sentinel, .sentinel, .sentinel, .sentinel, .sentinel, .sentinel, .sentinel, .sentinel, .sentinel, .sentinel], laidTests := true, laidLooks := .later }
def PairsWordsCardSaid : Prop := Claim7.holds Tryz.pinned (.plain (OpenSpec.ofChange pairsWordsSpec)) pairsWordsCard

/-- THE TIED CARD OF 'edenlaw14.InjectTells'. -/
def injectTellsCard : Claim7 := { stood := { row := injectTellsRow, standIns := [], harness := (true, "022fb10588d12298ab7f2ab5dfc463dee782f5599b1353a793184428177afdff"), looks := true }, kinds := [], alts := [], laidByText := true, laidKinds := [.handle, .sentinel, .sentinel, .sentinel, .sentinel, .sentinel, .sentinel, .sentinel, .sentinel, .sentinel, .sentinel, .sentinel, .sentinel], laidTests := true, laidLooks := .later }
def InjectTellsCardSaid : Prop := Claim7.holds Tryz.pinned (.plain (OpenSpec.ofChange injectTellsSpec)) injectTellsCard

/-- THE TIED CARD OF 'edenlaw14.InjectRings'. -/
def injectRingsCard : Claim7 := { stood := { row := injectRingsRow, standIns := [], harness := (true, "022fb10588d12298ab7f2ab5dfc463dee782f5599b1353a793184428177afdff"), looks := true }, kinds := [], alts := [], laidByText := true, laidKinds := [.handle, .sentinel, .sentinel, .sentinel, .sentinel, .sentinel, .sentinel, .sentinel, .sentinel, .sentinel, .sentinel, .sentinel, .sentinel], laidTests := true, laidLooks := .later }
def InjectRingsCardSaid : Prop := Claim7.holds Tryz.pinned (.plain (OpenSpec.ofChange injectRingsSpec)) injectRingsCard

/-- THE SECOND FORM's CARD OF 'edenlaw15.TwinsTells'. -/
def twinsTellsUptoCard : Claim7 := { stood := { row := twinsTellsUptoRow, standIns := [], harness := (true, "022fb10588d12298ab7f2ab5dfc463dee782f5599b1353a793184428177afdff"), looks := true }, kinds := [], alts := [], laidByText := true, laidKinds := [.handle, .sentinel, .sentinel, .sentinel, .sentinel, .sentinel, .sentinel, .sentinel, .sentinel, .sentinel, .sentinel, .sentinel, .sentinel], laidTests := true, laidLooks := .later }
def TwinsTellsUptoCardSaid : Prop := Claim7.holds Tryz.pinned (.plain (OpenSpec.upto twinsTellsSpec)) twinsTellsUptoCard

/-- THE SECOND FORM's CARD OF 'edenlaw14.InjectKeeps'. -/
def injectKeepsUptoCard : Claim7 := { stood := { row := injectKeepsUptoRow, standIns := [], harness := (true, "022fb10588d12298ab7f2ab5dfc463dee782f5599b1353a793184428177afdff"), looks := true }, kinds := [], alts := [], laidByText := true, laidKinds := [.sentinel, .sentinel, .sentinel, .sentinel, .sentinel, .sentinel, .sentinel, .sentinel, .sentinel, .sentinel, .sentinel, .sentinel], laidTests := true, laidLooks := .later }
def InjectKeepsUptoCardSaid : Prop := Claim7.holds Tryz.pinned (.plain (OpenSpec.upto injectKeepsSpec)) injectKeepsUptoCard

/-- THE SECOND FORM's CARD OF 'edenlaw13.PairsWords'. -/
def pairsWordsUptoCard : Claim7 := { stood := { row := pairsWordsUptoRow, standIns := [], harness := (true, "022fb10588d12298ab7f2ab5dfc463dee782f5599b1353a793184428177afdff"), looks := true }, kinds := [], alts := [], laidByText := true, laidKinds := [.handle, .sentinel, .sentinel, .sentinel, .sentinel, .sentinel, .sentinel, .sentinel, .sentinel, .sentinel, .sentinel, .sentinel, .sentinel], laidTests := true, laidLooks := .later }
def PairsWordsUptoCardSaid : Prop := Claim7.holds Tryz.pinned (.plain (OpenSpec.upto pairsWordsSpec)) pairsWordsUptoCard

/-- THE SECOND FORM's CARD OF 'edenlaw14.InjectTells'. -/
def injectTellsUptoCard : Claim7 := { stood := { row := injectTellsUptoRow, standIns := [], harness := (true, "022fb10588d12298ab7f2ab5dfc463dee782f5599b1353a793184428177afdff"), looks := true }, kinds := [], alts := [], laidByText := true, laidKinds := [.handle, .sentinel, .sentinel, .sentinel, .sentinel, .sentinel, .sentinel, .sentinel, .sentinel, .sentinel, .sentinel, .sentinel, .sentinel], laidTests := true, laidLooks := .later }
def InjectTellsUptoCardSaid : Prop := Claim7.holds Tryz.pinned (.plain (OpenSpec.upto injectTellsSpec)) injectTellsUptoCard

/-- THE SECOND FORM's CARD OF 'edenlaw14.InjectRings'. -/
def injectRingsUptoCard : Claim7 := { stood := { row := injectRingsUptoRow, standIns := [], harness := (true, "022fb10588d12298ab7f2ab5dfc463dee782f5599b1353a793184428177afdff"), looks := true }, kinds := [], alts := [], laidByText := true, laidKinds := [.handle, .sentinel, .sentinel, .sentinel, .sentinel, .sentinel, .sentinel, .sentinel, .sentinel, .sentinel, .sentinel, .sentinel, .sentinel], laidTests := true, laidLooks := .later }
def InjectRingsUptoCardSaid : Prop := Claim7.holds Tryz.pinned (.plain (OpenSpec.upto injectRingsSpec)) injectRingsUptoCard
end Rows
end Go.Proofs.YtilpckngghffoaaGreatDoor
