/-
  DERIVED. GIVEN WITH THE SEED: THE CARDS: each row of YtmhiambkfdkkbaaGreatDoorRows.lean that lists a variable, with what it lists TIED to the program's text (the seventh form; the later family's looks); each row that meets fmt, with fmt's text TOLD by the authors' own Lean function (tested against real Go, not proved from fmt's source: count such statements apart). THE CARD IS WHAT COUNTS. Prove the row's statement (the work); the ties are given (YtmhiambkfdkkbaaGreatDoorTie.lean); close each card by the builder's one call (the guide's Derived/Test/ToyasCard.lean, 'card_holds'). Laid BY PROGRAM, IN A SANDBOX (cutbox-door.mjs). By AI agents, Wed Nov 11 2026. No macro, syntax, notation, axiom, sorry.
-/
import Derived.Test.YtmhiambkfdkkbaaGreatDoorRows
import GoSem.ClaimSeven
namespace Go.Proofs.YtmhiambkfdkkbaaGreatDoor
namespace Rows

/-- THE TIED CARD OF 'edenlaw15.TwinsChecks'. -/
def twinsChecksCard : Claim7 := { stood := { row := twinsChecksRow, standIns := [], harness := (true, "1d1a2eadd99681ae7b39a7497832a7f1b45f38dc18000476cbfb3fa49c5d5f99"), looks := true }, kinds := [], alts := [], laidByText := true, laidKinds := [.handle, .sentinel, .sentinel, .sentinel, .sentinel, .sentinel, .sentinel, .sentinel, .sentinel, .sentinel, .sentinel, .sentinel, .sentinel], laidTests := true, laidLooks := .later }
def TwinsChecksCardSaid : Prop := Claim7.holds Tryz.pinned (.plain (OpenSpec.ofChange twinsChecksSpec)) twinsChecksCard

/-- THE TIED CARD OF 'edenlaw15.TwinsTells'. -/
def twinsTellsCard : Claim7 := { stood := { row := twinsTellsRow, standIns := [], harness := (true, "1d1a2eadd99681ae7b39a7497832a7f1b45f38dc18000476cbfb3fa49c5d5f99"), looks := true }, kinds := [], alts := [], laidByText := true, laidKinds := [.handle, .sentinel, .sentinel, .sentinel, .sentinel, .sentinel, .sentinel, .sentinel, .sentinel, .sentinel, .sentinel, .sentinel, .sentinel], laidTests := true, laidLooks := .later }
def TwinsTellsCardSaid : Prop := Claim7.holds Tryz.pinned (.plain (OpenSpec.ofChange twinsTellsSpec)) twinsTellsCard

/-- THE TIED CARD OF 'edenlaw13.PairsGraphs'. -/
def pairsGraphsCard : Claim7 := { stood := { row := pairsGraphsRow, standIns := [], harness := (true, "1d1a2eadd99681ae7b39a7497832a7f1b45f38dc18000476cbfb3fa49c5d5f99"), looks := true }, kinds := [], alts := [], laidByText := true, laidKinds := [.handle, .sentinel, .sentinel, .sentinel, .sentinel, .sentinel, .sentinel, .sentinel, .sentinel, .sentinel, .sentinel, .sentinel, .sentinel], laidTests := true, laidLooks := .later }
def PairsGraphsCardSaid : Prop := Claim7.holds Tryz.pinned (.plain (OpenSpec.ofChange pairsGraphsSpec)) pairsGraphsCard

/-- THE TIED CARD OF 'edenlaw14.InjectKeeps'. -/
def injectKeepsCard : Claim7 := { stood := { row := injectKeepsRow, standIns := [], harness := (true, "1d1a2eadd99681ae7b39a7497832a7f1b45f38dc18000476cbfb3fa49c5d5f99"), looks := true }, kinds := [], alts := [], laidByText := true, laidKinds := [.sentinel, .sentinel, .sentinel, .sentinel, .sentinel, .sentinel, .sentinel, .sentinel, .sentinel, .sentinel, .sentinel, .sentinel], laidTests := true, laidLooks := .later }
def InjectKeepsCardSaid : Prop := Claim7.holds Tryz.pinned (.plain (OpenSpec.ofChange injectKeepsSpec)) injectKeepsCard

/-- THE TIED CARD OF 'edenlaw13.PairsWords'. -/
def pairsWordsCard : Claim7 := { stood := { row := pairsWordsRow, standIns := [], harness := (true, "1d1a2eadd99681ae7b39a7497832a7f1b45f38dc18000476cbfb3fa49c5d5f99"), looks := true }, kinds := [], alts := [], laidByText := true, laidKinds := [.handle, .sentinel, .sentinel, .sentinel, .sentinel, .sentinel, .sentinel, .sentinel, .sentinel, .sentinel, .sentinel, .sentinel, .sentinel], laidTests := true, laidLooks := .later }
def PairsWordsCardSaid : Prop := Claim7.holds Tryz.pinned (.plain (OpenSpec.ofChange pairsWordsSpec)) pairsWordsCard

/-- THE TIED CARD OF 'edenlaw14.InjectTells'. -/
def injectTellsCard : Claim7 := { stood := { row := injectTellsRow, standIns := [], harness := (true, "1d1a2eadd99681ae7b39a7497832a7f1b45f38dc18000476cbfb3fa49c5d5f99"), looks := true }, kinds := [], alts := [], laidByText := true, laidKinds := [.handle, .sentinel, .sentinel, .sentinel, .sentinel, .sentinel, .sentinel, .sentinel, .sentinel, .sentinel, .sentinel, .sentinel, .sentinel], laidTests := true, laidLooks := .later }
def InjectTellsCardSaid : Prop := Claim7.holds Tryz.pinned (.plain (OpenSpec.ofChange injectTellsSpec)) injectTellsCard

/-- THE TIED CARD OF 'edenlaw14.InjectRings'. -/
def injectRingsCard : Claim7 := { stood := { row := injectRingsRow, standIns := [], harness := (true, "1d1a2eadd99681ae7b39a7497832a7f1b45f38dc18000476cbfb3fa49c5d5f99"), looks := true }, kinds := [], alts := [], laidByText := true, laidKinds := [.handle, .sentinel, .sentinel, .sentinel, .sentinel, .sentinel, .sentinel, .sentinel, .sentinel, .sentinel, .sentinel, .sentinel, .sentinel], laidTests := true, laidLooks := .later }
def InjectRingsCardSaid : Prop := Claim7.holds Tryz.pinned (.plain (OpenSpec.ofChange injectRingsSpec)) injectRingsCard

/-- THE SECOND FORM's CARD OF 'edenlaw15.TwinsChecks'. -/
def twinsChecksUptoCard : Claim7 := { stood := { row := twinsChecksUptoRow, standIns := [], harness := (true, "1d1a2eadd99681ae7b39a7497832a7f1b45f38dc18000476cbfb3fa49c5d5f99"), looks := true }, kinds := [], alts := [], laidByText := true, laidKinds := [.handle, .sentinel, .sentinel, .sentinel, .sentinel, .sentinel, .sentinel, .sentinel, .sentinel, .sentinel, .sentinel, .sentinel, .sentinel], laidTests := true, laidLooks := .later }
def TwinsChecksUptoCardSaid : Prop := Claim7.holds Tryz.pinned (.plain (OpenSpec.upto twinsChecksSpec)) twinsChecksUptoCard

/-- THE SECOND FORM's CARD OF 'edenlaw15.TwinsTells'. -/
def twinsTellsUptoCard : Claim7 := { stood := { row := twinsTellsUptoRow, standIns := [], harness := (true, "1d1a2eadd99681ae7b39a7497832a7f1b45f38dc18000476cbfb3fa49c5d5f99"), looks := true }, kinds := [], alts := [], laidByText := true, laidKinds := [.handle, .sentinel, .sentinel, .sentinel, .sentinel, .sentinel, .sentinel, .sentinel, .sentinel, .sentinel, .sentinel, .sentinel, .sentinel], laidTests := true, laidLooks := .later }
def TwinsTellsUptoCardSaid : Prop := Claim7.holds Tryz.pinned (.plain (OpenSpec.upto twinsTellsSpec)) twinsTellsUptoCard

/-- THE SECOND FORM's CARD OF 'edenlaw13.PairsGraphs'. -/
def pairsGraphsUptoCard : Claim7 := { stood := { row := pairsGraphsUptoRow, standIns := [], harness := (true, "1d1a2eadd99681ae7b39a7497832a7f1b45f38dc18000476cbfb3fa49c5d5f99"), looks := true }, kinds := [], alts := [], laidByText := true, laidKinds := [.handle, .sentinel, .sentinel, .sentinel, .sentinel, .sentinel, .sentinel, .sentinel, .sentinel, .sentinel, .sentinel, .sentinel, .sentinel], laidTests := true, laidLooks := .later }
def PairsGraphsUptoCardSaid : Prop := Claim7.holds Tryz.pinned (.plain (OpenSpec.upto pairsGraphsSpec)) pairsGraphsUptoCard

/-- THE SECOND FORM's CARD OF 'edenlaw14.InjectKeeps'. -/
def injectKeepsUptoCard : Claim7 := { stood := { row := injectKeepsUptoRow, standIns := [], harness := (true, "1d1a2eadd99681ae7b39a7497832a7f1b45f38dc18000476cbfb3fa49c5d5f99"), looks := true }, kinds := [], alts := [], laidByText := true, laidKinds := [.sentinel, .sentinel, .sentinel, .sentinel, .sentinel, .sentinel, .sentinel, .sentinel, .sentinel, .sentinel, .sentinel, .sentinel], laidTests := true, laidLooks := .later }
def InjectKeepsUptoCardSaid : Prop := Claim7.holds Tryz.pinned (.plain (OpenSpec.upto injectKeepsSpec)) injectKeepsUptoCard

/-- THE SECOND FORM's CARD OF 'edenlaw13.PairsWords'. -/
def pairsWordsUptoCard : Claim7 := { stood := { row := pairsWordsUptoRow, standIns := [], harness := (true, "1d1a2eadd99681ae7b39a7497832a7f1b45f38dc18000476cbfb3fa49c5d5f99"), looks := true }, kinds := [], alts := [], laidByText := true, laidKinds := [.handle, .sentinel, .sentinel, .sentinel, .sentinel, .sentinel, .sentinel, .sentinel, .sentinel, .sentinel, .sentinel, .sentinel, .sentinel], laidTests := true, laidLooks := .later }
def PairsWordsUptoCardSaid : Prop := Claim7.holds Tryz.pinned (.plain (OpenSpec.upto pairsWordsSpec)) pairsWordsUptoCard

/-- THE SECOND FORM's CARD OF 'edenlaw14.InjectTells'. -/
def injectTellsUptoCard : Claim7 := { stood := { row := injectTellsUptoRow, standIns := [], harness := (true, "1d1a2eadd99681ae7b39a7497832a7f1b45f38dc18000476cbfb3fa49c5d5f99"), looks := true }, kinds := [], alts := [], laidByText := true, laidKinds := [.handle, .sentinel, .sentinel, .sentinel, .sentinel, .sentinel, .sentinel, .sentinel, .sentinel, .sentinel, .sentinel, .sentinel, .sentinel], laidTests := true, laidLooks := .later }
def InjectTellsUptoCardSaid : Prop := Claim7.holds Tryz.pinned (.plain (OpenSpec.upto injectTellsSpec)) injectTellsUptoCard

/-- THE SECOND FORM's CARD OF 'edenlaw14.InjectRings'. -/
def injectRingsUptoCard : Claim7 := { stood := { row := injectRingsUptoRow, standIns := [], harness := (true, "1d1a2eadd99681ae7b39a7497832a7f1b45f38dc18000476cbfb3fa49c5d5f99"), looks := true }, kinds := [], alts := [], laidByText := true, laidKinds := [.handle, .sentinel, .sentinel, .sentinel, .sentinel, .sentinel, .sentinel, .sentinel, .sentinel, .sentinel, .sentinel, .sentinel, .sentinel], laidTests := true, laidLooks := .later }
def InjectRingsUptoCardSaid : Prop := Claim7.holds Tryz.pinned (.plain (OpenSpec.upto injectRingsSpec)) injectRingsUptoCard
end Rows
end Go.Proofs.YtmhiambkfdkkbaaGreatDoor
