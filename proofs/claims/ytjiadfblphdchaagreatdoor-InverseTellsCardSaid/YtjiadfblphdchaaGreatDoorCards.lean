/-
  DERIVED. GIVEN WITH THE SEED: THE CARDS: each row of YtjiadfblphdchaaGreatDoorRows.lean that lists a variable, with what it lists TIED to the program's text (the seventh form; the later family's looks); each row that meets fmt, with fmt's text TOLD by the authors' own Lean function (tested against real Go, not proved from fmt's source: count such statements apart). THE CARD IS WHAT COUNTS. Prove the row's statement (the work); the ties are given (YtjiadfblphdchaaGreatDoorTie.lean); close each card by the builder's one call (the guide's Derived/Test/ToyasCard.lean, 'card_holds'). Laid BY PROGRAM, IN A SANDBOX (cutbox-door.mjs). By AI agents, Wed Nov 11 2026. No macro, syntax, notation, axiom, sorry.
-/
import Derived.Test.YtjiadfblphdchaaGreatDoorRows
import GoSem.ClaimSeven
namespace Go.Proofs.YtjiadfblphdchaaGreatDoor
namespace Rows

/-- THE TIED CARD OF 'edenlaw20.InverseTells'. -/
def inverseTellsCard : Claim7 := { stood := { row := inverseTellsRow, standIns := [], harness := (true, "ba83c489b0be080c725e84cc257dfa7a9885b6d1195ed99cf3d4e8a3cb05a1f4"), looks := true }, kinds := [], alts := [], laidByText := true, laidKinds := [.data, .handle, .sentinel, .sentinel, .sentinel, .sentinel, .sentinel, .sentinel, .sentinel, .sentinel, .sentinel, .sentinel, .sentinel, .sentinel, .pinned], laidTests := true, laidLooks := .later }
def InverseTellsCardSaid : Prop := Claim7.holds Tryz.pinned (.plain (OpenSpec.ofChange inverseTellsSpec)) inverseTellsCard

/-- THE TIED CARD OF 'edenlaw20.InverseBack'. -/
def inverseBackCard : Claim7 := { stood := { row := inverseBackRow, standIns := [], harness := (true, "ba83c489b0be080c725e84cc257dfa7a9885b6d1195ed99cf3d4e8a3cb05a1f4"), looks := true }, kinds := [], alts := [], laidByText := true, laidKinds := [.data, .handle, .sentinel, .sentinel, .sentinel, .sentinel, .sentinel, .sentinel, .sentinel, .sentinel, .sentinel, .sentinel, .sentinel, .sentinel, .pinned], laidTests := true, laidLooks := .later }
def InverseBackCardSaid : Prop := Claim7.holds Tryz.pinned (.plain (OpenSpec.ofChange inverseBackSpec)) inverseBackCard

/-- THE TIED CARD OF 'edenlaw20.InverseChecks'. -/
def inverseChecksCard : Claim7 := { stood := { row := inverseChecksRow, standIns := [], harness := (true, "ba83c489b0be080c725e84cc257dfa7a9885b6d1195ed99cf3d4e8a3cb05a1f4"), looks := true }, kinds := [], alts := [], laidByText := true, laidKinds := [.data, .handle, .sentinel, .sentinel, .sentinel, .sentinel, .sentinel, .sentinel, .sentinel, .sentinel, .sentinel, .sentinel, .sentinel, .sentinel, .pinned], laidTests := true, laidLooks := .later }
def InverseChecksCardSaid : Prop := Claim7.holds Tryz.pinned (.plain (OpenSpec.ofChange inverseChecksSpec)) inverseChecksCard

/-- THE TIED CARD OF 'edenlaw20.InverseComposes'. -/
def inverseComposesCard : Claim7 := { stood := { row := inverseComposesRow, standIns := [], harness := (true, "ba83c489b0be080c725e84cc257dfa7a9885b6d1195ed99cf3d4e8a3cb05a1f4"), looks := true }, kinds := [], alts := [], laidByText := true, laidKinds := [.data, .handle, .sentinel, .sentinel, .sentinel, .sentinel, .sentinel, .sentinel, .sentinel, .sentinel, .sentinel, .sentinel, .sentinel, .sentinel, .pinned], laidTests := true, laidLooks := .later }
def InverseComposesCardSaid : Prop := Claim7.holds Tryz.pinned (.plain (OpenSpec.ofChange inverseComposesSpec)) inverseComposesCard

/-- THE TIED CARD OF 'edenlaw20.InverseTwice'. -/
def inverseTwiceCard : Claim7 := { stood := { row := inverseTwiceRow, standIns := [], harness := (true, "ba83c489b0be080c725e84cc257dfa7a9885b6d1195ed99cf3d4e8a3cb05a1f4"), looks := true }, kinds := [], alts := [], laidByText := true, laidKinds := [.data, .handle, .sentinel, .sentinel, .sentinel, .sentinel, .sentinel, .sentinel, .sentinel, .sentinel, .sentinel, .sentinel, .sentinel, .sentinel, .pinned], laidTests := true, laidLooks := .later }
def InverseTwiceCardSaid : Prop := Claim7.holds Tryz.pinned (.plain (OpenSpec.ofChange inverseTwiceSpec)) inverseTwiceCard

/-- THE SECOND FORM's CARD OF 'edenlaw20.InverseTells'. -/
def inverseTellsUptoCard : Claim7 := { stood := { row := inverseTellsUptoRow, standIns := [], harness := (true, "ba83c489b0be080c725e84cc257dfa7a9885b6d1195ed99cf3d4e8a3cb05a1f4"), looks := true }, kinds := [], alts := [], laidByText := true, laidKinds := [.data, .handle, .sentinel, .sentinel, .sentinel, .sentinel, .sentinel, .sentinel, .sentinel, .sentinel, .sentinel, .sentinel, .sentinel, .sentinel, .pinned], laidTests := true, laidLooks := .later }
def InverseTellsUptoCardSaid : Prop := Claim7.holds Tryz.pinned (.plain (OpenSpec.upto inverseTellsSpec)) inverseTellsUptoCard

/-- THE SECOND FORM's CARD OF 'edenlaw20.InverseBack'. -/
def inverseBackUptoCard : Claim7 := { stood := { row := inverseBackUptoRow, standIns := [], harness := (true, "ba83c489b0be080c725e84cc257dfa7a9885b6d1195ed99cf3d4e8a3cb05a1f4"), looks := true }, kinds := [], alts := [], laidByText := true, laidKinds := [.data, .handle, .sentinel, .sentinel, .sentinel, .sentinel, .sentinel, .sentinel, .sentinel, .sentinel, .sentinel, .sentinel, .sentinel, .sentinel, .pinned], laidTests := true, laidLooks := .later }
def InverseBackUptoCardSaid : Prop := Claim7.holds Tryz.pinned (.plain (OpenSpec.upto inverseBackSpec)) inverseBackUptoCard

/-- THE SECOND FORM's CARD OF 'edenlaw20.InverseChecks'. -/
def inverseChecksUptoCard : Claim7 := { stood := { row := inverseChecksUptoRow, standIns := [], harness := (true, "ba83c489b0be080c725e84cc257dfa7a9885b6d1195ed99cf3d4e8a3cb05a1f4"), looks := true }, kinds := [], alts := [], laidByText := true, laidKinds := [.data, .handle, .sentinel, .sentinel, .sentinel, .sentinel, .sentinel, .sentinel, .sentinel, .sentinel, .sentinel, .sentinel, .sentinel, .sentinel, .pinned], laidTests := true, laidLooks := .later }
def InverseChecksUptoCardSaid : Prop := Claim7.holds Tryz.pinned (.plain (OpenSpec.upto inverseChecksSpec)) inverseChecksUptoCard

/-- THE SECOND FORM's CARD OF 'edenlaw20.InverseComposes'. -/
def inverseComposesUptoCard : Claim7 := { stood := { row := inverseComposesUptoRow, standIns := [], harness := (true, "ba83c489b0be080c725e84cc257dfa7a9885b6d1195ed99cf3d4e8a3cb05a1f4"), looks := true }, kinds := [], alts := [], laidByText := true, laidKinds := [.data, .handle, .sentinel, .sentinel, .sentinel, .sentinel, .sentinel, .sentinel, .sentinel, .sentinel, .sentinel, .sentinel, .sentinel, .sentinel, .pinned], laidTests := true, laidLooks := .later }
def InverseComposesUptoCardSaid : Prop := Claim7.holds Tryz.pinned (.plain (OpenSpec.upto inverseComposesSpec)) inverseComposesUptoCard

/-- THE SECOND FORM's CARD OF 'edenlaw20.InverseTwice'. -/
def inverseTwiceUptoCard : Claim7 := { stood := { row := inverseTwiceUptoRow, standIns := [], harness := (true, "ba83c489b0be080c725e84cc257dfa7a9885b6d1195ed99cf3d4e8a3cb05a1f4"), looks := true }, kinds := [], alts := [], laidByText := true, laidKinds := [.data, .handle, .sentinel, .sentinel, .sentinel, .sentinel, .sentinel, .sentinel, .sentinel, .sentinel, .sentinel, .sentinel, .sentinel, .sentinel, .pinned], laidTests := true, laidLooks := .later }
def InverseTwiceUptoCardSaid : Prop := Claim7.holds Tryz.pinned (.plain (OpenSpec.upto inverseTwiceSpec)) inverseTwiceUptoCard
end Rows
end Go.Proofs.YtjiadfblphdchaaGreatDoor
