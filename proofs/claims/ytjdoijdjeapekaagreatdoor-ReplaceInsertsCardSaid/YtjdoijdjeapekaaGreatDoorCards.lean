/-
  DERIVED. GIVEN WITH THE SEED: THE CARDS: each row of YtjdoijdjeapekaaGreatDoorRows.lean that lists a variable, with what it lists TIED to the program's text (the seventh form; the later family's looks); each row that meets fmt, with fmt's text TOLD by the authors' own Lean function (tested against real Go, not proved from fmt's source: count such statements apart). THE CARD IS WHAT COUNTS. Prove the row's statement (the work); the ties are given (YtjdoijdjeapekaaGreatDoorTie.lean); close each card by the builder's one call (the guide's Derived/Test/ToyasCard.lean, 'card_holds'). Laid BY PROGRAM, IN A SANDBOX (cutbox-door.mjs). By AI agents, Wed Nov 11 2026. No macro, syntax, notation, axiom, sorry.
-/
import Derived.Test.YtjdoijdjeapekaaGreatDoorRows
import GoSem.ClaimSeven
namespace Go.Proofs.YtjdoijdjeapekaaGreatDoor
namespace Rows

/-- THE TIED CARD OF 'lightclientlaw36.ReplaceInserts'. -/
def replaceInsertsCard : Claim7 := { stood := { row := replaceInsertsRow, standIns := [], harness := (true, "6de57215e5ab2776e40773d84bce27e4f6262f592fc7ea3d56ee5828dfc43d59"), looks := false }, kinds := [], alts := [], laidByText := true, laidKinds := [.data, .data], laidTests := true, laidLooks := .later }
def ReplaceInsertsCardSaid : Prop := Claim7.holds Tryz.pinned (.plain (OpenSpec.ofChange replaceInsertsSpec)) replaceInsertsCard

/-- THE SECOND FORM's CARD OF 'lightclientlaw36.ReplaceInserts'. -/
def replaceInsertsUptoCard : Claim7 := { stood := { row := replaceInsertsUptoRow, standIns := [], harness := (true, "6de57215e5ab2776e40773d84bce27e4f6262f592fc7ea3d56ee5828dfc43d59"), looks := false }, kinds := [], alts := [], laidByText := true, laidKinds := [.data, .data], laidTests := true, laidLooks := .later }
def ReplaceInsertsUptoCardSaid : Prop := Claim7.holds Tryz.pinned (.plain (OpenSpec.upto replaceInsertsSpec)) replaceInsertsUptoCard
end Rows
end Go.Proofs.YtjdoijdjeapekaaGreatDoor
