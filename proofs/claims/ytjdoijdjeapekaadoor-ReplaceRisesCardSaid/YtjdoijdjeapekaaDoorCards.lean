/-
  DERIVED. GIVEN WITH THE SEED: THE CARDS: each row of YtjdoijdjeapekaaDoorRows.lean that lists a variable, with what it lists TIED to the program's text (the seventh form; the later family's looks); each row that meets fmt, with fmt's text TOLD by the authors' own Lean function (tested against real Go, not proved from fmt's source: count such statements apart). THE CARD IS WHAT COUNTS. Prove the row's statement (the work); the ties are given (YtjdoijdjeapekaaDoorTie.lean); close each card by the builder's one call (the guide's Derived/Test/ToyasCard.lean, 'card_holds'). Laid BY PROGRAM, IN A SANDBOX (cutbox-door.mjs). By AI agents, Wed Nov 11 2026. No macro, syntax, notation, axiom, sorry.
-/
import Derived.Test.YtjdoijdjeapekaaDoorRows
import GoSem.ClaimSeven
namespace Go.Proofs.YtjdoijdjeapekaaDoor
namespace Rows

/-- THE TIED CARD OF 'lightclientlaw36.ReplaceBumps'. -/
def replaceBumpsCard : Claim7 := { stood := { row := replaceBumpsRow, standIns := [], harness := (true, "659a4f685ce25e35fa082b1ac585ceba2cef37f9dd14ae27351c6b257dbed981"), looks := false }, kinds := [], alts := [], laidByText := true, laidKinds := [.data, .data], laidTests := true, laidLooks := .later }
def ReplaceBumpsCardSaid : Prop := Claim7.holds Tryd.pinned (.plain (OpenSpec.ofChange replaceBumpsSpec)) replaceBumpsCard

/-- THE TIED CARD OF 'lightclientlaw36.ReplaceRises'. -/
def replaceRisesCard : Claim7 := { stood := { row := replaceRisesRow, standIns := [], harness := (true, "659a4f685ce25e35fa082b1ac585ceba2cef37f9dd14ae27351c6b257dbed981"), looks := false }, kinds := [], alts := [], laidByText := true, laidKinds := [.data, .data], laidTests := true, laidLooks := .later }
def ReplaceRisesCardSaid : Prop := Claim7.holds Tryd.pinned (.plain (OpenSpec.ofChange replaceRisesSpec)) replaceRisesCard

/-- THE SECOND FORM's CARD OF 'lightclientlaw36.ReplaceBumps'. -/
def replaceBumpsUptoCard : Claim7 := { stood := { row := replaceBumpsUptoRow, standIns := [], harness := (true, "659a4f685ce25e35fa082b1ac585ceba2cef37f9dd14ae27351c6b257dbed981"), looks := false }, kinds := [], alts := [], laidByText := true, laidKinds := [.data, .data], laidTests := true, laidLooks := .later }
def ReplaceBumpsUptoCardSaid : Prop := Claim7.holds Tryd.pinned (.plain (OpenSpec.upto replaceBumpsSpec)) replaceBumpsUptoCard

/-- THE SECOND FORM's CARD OF 'lightclientlaw36.ReplaceRises'. -/
def replaceRisesUptoCard : Claim7 := { stood := { row := replaceRisesUptoRow, standIns := [], harness := (true, "659a4f685ce25e35fa082b1ac585ceba2cef37f9dd14ae27351c6b257dbed981"), looks := false }, kinds := [], alts := [], laidByText := true, laidKinds := [.data, .data], laidTests := true, laidLooks := .later }
def ReplaceRisesUptoCardSaid : Prop := Claim7.holds Tryd.pinned (.plain (OpenSpec.upto replaceRisesSpec)) replaceRisesUptoCard
end Rows
end Go.Proofs.YtjdoijdjeapekaaDoor
