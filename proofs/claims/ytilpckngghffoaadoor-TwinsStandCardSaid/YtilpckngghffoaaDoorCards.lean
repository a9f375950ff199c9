/-
  DERIVED. GIVEN WITH THE SEED: THE CARDS: each row of YtilpckngghffoaaDoorRows.lean that lists a variable, with what it lists TIED to the program's text (the seventh form; the later family's looks); each row that meets fmt, with fmt's text TOLD by the authors' own Lean function (tested against real Go, not proved from fmt's source: count such statements apart). THE CARD IS WHAT COUNTS. Prove the row's statement (the work); the ties are given (YtilpckngghffoaaDoorTie.lean); close each card by the builder's one call (the guide's Derived/Test/ToyasCard.lean, 'card_holds'). Laid BY PROGRAM, IN A SANDBOX (cutbox-door.mjs). By AI agents, Wed Nov 11 2026. No macro, syntax, notation, axiom, sorry.
-/
import Derived.Test.YtilpckngghffoaaDoorRows
import GoSem.ClaimSeven
namespace Go.Proofs.YtilpckngghffoaaDoor
namespace Rows

/-- THE TIED CARD OF 'edenlaw15.TwinsStand'. -/
def twinsStandCard : Claim7 := { stood := { row := twinsStandRow, standIns := [], harness := (true, "83ad62566138d5ca568f80d0f395d4b19ea98e726b141297e8cb4949c69efce3"), looks := false }, kinds := [], alts := [], laidByText := true, laidKinds := [.sentinel, .sentinel, .sentinel, .sentinel, .sentinel, .sentinel, .sentinel, .sentinel, .sentinel, .sentinel, .sentinel, .sentinel], laidTests := true, laidLooks := .later }
def TwinsStandCardSaid : Prop := Claim7.holds Tryd.pinned (.plain (OpenSpec.ofChange twinsStandSpec)) twinsStandCard

/-- THE SECOND FORM's CARD OF 'edenlaw15.TwinsStand'. -/
def twinsStandUptoCard : Claim7 := { stood := { row := twinsStandUptoRow, standIns := [], harness := (true, "83ad62566138d5ca568f80d0f395d4b19ea98e726b141297e8cb4949c69efce3"), looks := false }, kinds := [], alts := [], laidByText := true, laidKinds := [.sentinel, .sentinel, .sentinel, .sentinel, .sentinel, .sentinel, .sentinel, .sentinel, .sentinel, .sentinel, .sentinel, .sentinel], laidTests := true, laidLooks := .later }
def TwinsStandUptoCardSaid : Prop := Claim7.holds Tryd.pinned (.plain (OpenSpec.upto twinsStandSpec)) twinsStandUptoCard
end Rows
end Go.Proofs.YtilpckngghffoaaDoor
