/-
  DERIVED. GIVEN WITH THE SEED: THE CARDS: each row of YtcfpmbefhfbdjaaGreatDoorRows.lean that lists a variable, with what it lists TIED to the program's text (the seventh form; the later family's looks); each row that meets fmt, with fmt's text TOLD by the authors' own Lean function (tested against real Go, not proved from fmt's source: count such statements apart). THE CARD IS WHAT COUNTS. Prove the row's statement (the work); the ties are given (YtcfpmbefhfbdjaaGreatDoorTie.lean); close each card by the builder's one call (the guide's Derived/Test/ToyasCard.lean, 'card_holds'). Laid BY PROGRAM, IN A SANDBOX (cutbox-door.mjs). By AI agents, Wed Nov 11 2026. No macro, syntax, notation, axiom, sorry.
-/
import Derived.Test.YtcfpmbefhfbdjaaGreatDoorRows
import GoSem.ClaimSeven
namespace Go.Proofs.YtcfpmbefhfbdjaaGreatDoor
namespace Rows

/-- THE TIED CARD OF 'lightclientlaw21.FilterchainMade'. -/
def filterchainMadeCard : Claim7 := { stood := { row := filterchainMadeRow, standIns := [], harness := (true, "9e215bac63518ad84ed99f82a625e96dd076d199a24f107ccfe1babd23b9c4a1"), looks := false }, kinds := [], alts := [], laidByText := true, laidKinds := [.data, .data], laidTests := true, laidLooks := .later }
def FilterchainMadeCardSaid : Prop := Claim7.holds Tryz.pinned (.plain (OpenSpec.ofChange filterchainMadeSpec)) filterchainMadeCard

/-- THE TIED CARD OF 'lightclientlaw21.FilterchainUndoes'. -/
def filterchainUndoesCard : Claim7 := { stood := { row := filterchainUndoesRow, standIns := [], harness := (true, "9e215bac63518ad84ed99f82a625e96dd076d199a24f107ccfe1babd23b9c4a1"), looks := false }, kinds := [], alts := [], laidByText := true, laidKinds := [.data, .data], laidTests := true, laidLooks := .later }
def FilterchainUndoesCardSaid : Prop := Claim7.holds Tryz.pinned (.plain (OpenSpec.ofChange filterchainUndoesSpec)) filterchainUndoesCard

/-- THE SECOND FORM's CARD OF 'lightclientlaw21.FilterchainMade'. -/
def filterchainMadeUptoCard : Claim7 := { stood := { row := filterchainMadeUptoRow, standIns := [], harness := (true, "9e215bac63518ad84ed99f82a625e96dd076d199a24f107ccfe1babd23b9c4a1"), looks := false }, kinds := [], alts := [], laidByText := true, laidKinds := [.data, .data], laidTests := true, laidLooks := .later }
def FilterchainMadeUptoCardSaid : Prop := Claim7.holds Tryz.pinned (.plain (OpenSpec.upto filterchainMadeSpec)) filterchainMadeUptoCard

/-- THE SECOND FORM's CARD OF 'lightclientlaw21.FilterchainUndoes'. -/
def filterchainUndoesUptoCard : Claim7 := { stood := { row := filterchainUndoesUptoRow, standIns := [], harness := (true, "9e215bac63518ad84ed99f82a625e96dd076d199a24f107ccfe1babd23b9c4a1"), looks := false }, kinds := [], alts := [], laidByText := true, laidKinds := [.data, .data], laidTests := true, laidLooks := .later }
def FilterchainUndoesUptoCardSaid : Prop := Claim7.holds Tryz.pinned (.plain (OpenSpec.upto filterchainUndoesSpec)) filterchainUndoesUptoCard
end Rows
end Go.Proofs.YtcfpmbefhfbdjaaGreatDoor
