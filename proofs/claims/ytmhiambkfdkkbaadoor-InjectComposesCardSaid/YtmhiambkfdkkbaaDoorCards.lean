/-
  DERIVED. GIVEN WITH THE SEED: THE CARDS: each row of YtmhiambkfdkkbaaDoorRows.lean that lists a variable, with what it lists TIED to the program's text (the seventh form; the later family's looks); each row that meets fmt, with fmt's text TOLD by the authors' own Lean function (tested against real Go, not proved from fmt's source: count such statements apart). THE CARD IS WHAT COUNTS. Prove the row's statement (the work); the ties are given (YtmhiambkfdkkbaaDoorTie.lean); close each card by the builder's one call (the guide's Derived/Test/ToyasCard.lean, 'card_holds'). Laid BY PROGRAM, IN A SANDBOX (cutbox-door.mjs). By AI agents, Wed Nov 11 2026. No macro, syntax, notation, axiom, sorry.
-/
import Derived.Test.YtmhiambkfdkkbaaDoorRows
import GoSem.ClaimSeven
namespace Go.Proofs.YtmhiambkfdkkbaaDoor
namespace Rows

/-- THE TIED CARD OF 'edenlaw15.TwinsStand'. -/
def twinsStandCard : Claim7 := { stood := { row := twinsStandRow, standIns := [], harness := (true, "a7f0e568be6147f62e993fc2df63e6b34f21cef73a9de935353116f463b6d096"), looks := false }, kinds := [], alts := [], laidByText := true, laidKinds := [.sentinel, .sentinel, .sentinel, .sentinel, .sentinel, .sentinel, .sentinel, .sentinel, .sentinel, .sentinel, .sentinel, .sentinel], laidTests := true, laidLooks := .later }
def TwinsStandCardSaid : Prop := Claim7.holds Tryd.pinned (.plain (OpenSpec.ofChange twinsStandSpec)) twinsStandCard

/-- THE TIED CARD OF 'edenlaw13.PairsMeet'. -/
def pairsMeetCard : Claim7 := { stood := { row := pairsMeetRow, standIns := [], harness := (true, "a7f0e568be6147f62e993fc2df63e6b34f21cef73a9de935353116f463b6d096"), looks := false }, kinds := [], alts := [], laidByText := true, laidKinds := [.sentinel, .sentinel, .sentinel, .sentinel, .sentinel, .sentinel, .sentinel, .sentinel, .sentinel, .sentinel, .sentinel, .sentinel], laidTests := true, laidLooks := .later }
def PairsMeetCardSaid : Prop := Claim7.holds Tryd.pinned (.plain (OpenSpec.ofChange pairsMeetSpec)) pairsMeetCard

/-- THE TIED CARD OF 'edenlaw14.InjectComposes'. -/
def injectComposesCard : Claim7 := { stood := { row := injectComposesRow, standIns := [], harness := (true, "a7f0e568be6147f62e993fc2df63e6b34f21cef73a9de935353116f463b6d096"), looks := false }, kinds := [], alts := [], laidByText := true, laidKinds := [.sentinel, .sentinel, .sentinel, .sentinel, .sentinel, .sentinel, .sentinel, .sentinel, .sentinel, .sentinel, .sentinel, .sentinel], laidTests := true, laidLooks := .later }
def InjectComposesCardSaid : Prop := Claim7.holds Tryd.pinned (.plain (OpenSpec.ofChange injectComposesSpec)) injectComposesCard

/-- THE TIED CARD OF 'edenlaw14.InjectForms'. -/
def injectFormsCard : Claim7 := { stood := { row := injectFormsRow, standIns := [], harness := (true, "a7f0e568be6147f62e993fc2df63e6b34f21cef73a9de935353116f463b6d096"), looks := false }, kinds := [], alts := [], laidByText := true, laidKinds := [.sentinel, .sentinel, .sentinel, .sentinel, .sentinel, .sentinel, .sentinel, .sentinel, .sentinel, .sentinel, .sentinel, .sentinel], laidTests := true, laidLooks := .later }
def InjectFormsCardSaid : Prop := Claim7.holds Tryd.pinned (.plain (OpenSpec.ofChange injectFormsSpec)) injectFormsCard

/-- THE SECOND FORM's CARD OF 'edenlaw15.TwinsStand'. -/
def twinsStandUptoCard : Claim7 := { stood := { row := twinsStandUptoRow, standIns := [], harness := (true, "a7f0e568be6147f62e993fc2df63e6b34f21cef73a9de935353116f463b6d096"), looks := false }, kinds := [], alts := [], laidByText := true, laidKinds := [.sentinel, .sentinel, .sentinel, .sentinel, .sentinel, .sentinel, .sentinel, .sentinel, .sentinel, .sentinel, .sentinel, .sentinel], laidTests := true, laidLooks := .later }
def TwinsStandUptoCardSaid : Prop := Claim7.holds Tryd.pinned (.plain (OpenSpec.upto twinsStandSpec)) twinsStandUptoCard

/-- THE SECOND FORM's CARD OF 'edenlaw13.PairsMeet'. -/
def pairsMeetUptoCard : Claim7 := { stood := { row := pairsMeetUptoRow, standIns := [], harness := (true, "a7f0e568be6147f62e993fc2df63e6b34f21cef73a9de935353116f463b6d096"), looks := false }, kinds := [], alts := [], laidByText := true, laidKinds := [.sentinel, .sentinel, .sentinel, .sentinel, .sentinel, .sentinel, .sentinel, .sentinel, .sentinel, .sentinel, .sentinel, .sentinel], laidTests := true, laidLooks := .later }
def PairsMeetUptoCardSaid : Prop := Claim7.holds Tryd.pinned (.plain (OpenSpec.upto pairsMeetSpec)) pairsMeetUptoCard

/-- THE SECOND FORM's CARD OF 'edenlaw14.InjectComposes'. -/
def injectComposesUptoCard : Claim7 := { stood := { row := injectComposesUptoRow, standIns := [], harness := (true, "a7f0e568be6147f62e993fc2df63e6b34f21cef73a9de935353116f463b6d096"), looks := false }, kinds := [], alts := [], laidByText := true, laidKinds := [.sentinel, .sentinel, .sentinel, .sentinel, .sentinel, .sentinel, .sentinel, .sentinel, .sentinel, .sentinel, .sentinel, .sentinel], laidTests := true, laidLooks := .later }
def InjectComposesUptoCardSaid : Prop := Claim7.holds Tryd.pinned (.plain (OpenSpec.upto injectComposesSpec)) injectComposesUptoCard

/-- THE SECOND FORM's CARD OF 'edenlaw14.InjectForms'. -/
def injectFormsUptoCard : Claim7 := { stood := { row := injectFormsUptoRow, standIns := [], harness := (true, "a7f0e568be6147f62e993fc2df63e6b34f21cef73a9de935353116f463b6d096"), looks := false }, kinds := [], alts := [], laidByText := true, laidKinds := [.sentinel, .sentinel, .sentinel, .sentinel, .sentinel, .sentinel, .sentinel, .sentinel, .sentinel, .sentinel, .sentinel, .sentinel], laidTests := true, laidLooks := .later }
def InjectFormsUptoCardSaid : Prop := Claim7.holds Tryd.pinned (.plain (OpenSpec.upto injectFormsSpec)) injectFormsUptoCard
end Rows
end Go.Proofs.YtmhiambkfdkkbaaDoor
