/-
  DERIVED. GIVEN WITH THE SEED: THE CARDS: each row of YthpkpciceodioaaGreatDoorRows.lean that lists a variable, with what it lists TIED to the program's text (the seventh form; the later family's looks); each row that meets fmt, with fmt's text TOLD by the authors' own Lean function (tested against real Go, not proved from fmt's source: count such statements apart). THE CARD IS WHAT COUNTS. Prove the row's statement (the work); the ties are given (YthpkpciceodioaaGreatDoorTie.lean); close each card by the builder's one call (the guide's Derived/Test/ToyasCard.lean, 'card_holds'). Laid BY PROGRAM, IN A SANDBOX (cutbox-door.mjs). By AI agents, Wed Nov 11 2026. No macro, syntax, notation, axiom, sorry.
-/
import Derived.Test.YthpkpciceodioaaGreatDoorRows
import GoSem.ClaimSeven
namespace Go.Proofs.YthpkpciceodioaaGreatDoor
namespace Rows

/-- THE TIED CARD OF 'lightclientlaw20.FilterOf'. -/
def filterOfCard : Claim7 := { stood := { row := filterOfRow, standIns := [], harness := (true, "9a8f9165bec1637b5c3859e8a01645430ebe82024fac4f0a4ea8eeaecd8b69ae"), looks := false }, kinds := [], alts := [], laidByText := true, laidKinds := [.data, .data], laidTests := true, laidLooks := .later }
def FilterOfCardSaid : Prop := Claim7.holds Tryz.pinned (.plain (OpenSpec.ofChange filterOfSpec)) filterOfCard

/-- THE TIED CARD OF 'lightclientlaw20.FilterMatches'. -/
def filterMatchesCard : Claim7 := { stood := { row := filterMatchesRow, standIns := [], harness := (true, "9a8f9165bec1637b5c3859e8a01645430ebe82024fac4f0a4ea8eeaecd8b69ae"), looks := false }, kinds := [], alts := [], laidByText := true, laidKinds := [.data, .data], laidTests := true, laidLooks := .later }
def FilterMatchesCardSaid : Prop := Claim7.holds Tryz.pinned (.plain (OpenSpec.ofChange filterMatchesSpec)) filterMatchesCard

/-- THE TIED CARD OF 'lightclientlaw20.FilterCovers'. -/
def filterCoversCard : Claim7 := { stood := { row := filterCoversRow, standIns := [], harness := (true, "9a8f9165bec1637b5c3859e8a01645430ebe82024fac4f0a4ea8eeaecd8b69ae"), looks := false }, kinds := [], alts := [], laidByText := true, laidKinds := [.data, .data], laidTests := true, laidLooks := .later }
def FilterCoversCardSaid : Prop := Claim7.holds Tryz.pinned (.plain (OpenSpec.ofChange filterCoversSpec)) filterCoversCard

/-- THE TIED CARD OF 'lightclientlaw20.FilterMisses'. -/
def filterMissesCard : Claim7 := { stood := { row := filterMissesRow, standIns := [], harness := (true, "9a8f9165bec1637b5c3859e8a01645430ebe82024fac4f0a4ea8eeaecd8b69ae"), looks := false }, kinds := [], alts := [], laidByText := true, laidKinds := [.data, .data], laidTests := true, laidLooks := .later }
def FilterMissesCardSaid : Prop := Claim7.holds Tryz.pinned (.plain (OpenSpec.ofChange filterMissesSpec)) filterMissesCard

/-- THE TIED CARD OF 'lightclientlaw20.FilterBack'. -/
def filterBackCard : Claim7 := { stood := { row := filterBackRow, standIns := [], harness := (true, "9a8f9165bec1637b5c3859e8a01645430ebe82024fac4f0a4ea8eeaecd8b69ae"), looks := false }, kinds := [], alts := [], laidByText := true, laidKinds := [.data, .data], laidTests := true, laidLooks := .later }
def FilterBackCardSaid : Prop := Claim7.holds Tryz.pinned (.plain (OpenSpec.ofChange filterBackSpec)) filterBackCard

/-- THE TIED CARD OF 'lightclientlaw20.FilterEncodes'. -/
def filterEncodesCard : Claim7 := { stood := { row := filterEncodesRow, standIns := [], harness := (true, "9a8f9165bec1637b5c3859e8a01645430ebe82024fac4f0a4ea8eeaecd8b69ae"), looks := false }, kinds := [], alts := [], laidByText := true, laidKinds := [.data, .data], laidTests := true, laidLooks := .later }
def FilterEncodesCardSaid : Prop := Claim7.holds Tryz.pinned (.plain (OpenSpec.ofChange filterEncodesSpec)) filterEncodesCard

/-- THE SECOND FORM's CARD OF 'lightclientlaw20.FilterOf'. -/
def filterOfUptoCard : Claim7 := { stood := { row := filterOfUptoRow, standIns := [], harness := (true, "9a8f9165bec1637b5c3859e8a01645430ebe82024fac4f0a4ea8eeaecd8b69ae"), looks := false }, kinds := [], alts := [], laidByText := true, laidKinds := [.data, .data], laidTests := true, laidLooks := .later }
def FilterOfUptoCardSaid : Prop := Claim7.holds Tryz.pinned (.plain (OpenSpec.upto filterOfSpec)) filterOfUptoCard

/-- THE SECOND FORM's CARD OF 'lightclientlaw20.FilterMatches'. -/
def filterMatchesUptoCard : Claim7 := { stood := { row := filterMatchesUptoRow, standIns := [], harness := (true, "9a8f9165bec1637b5c3859e8a01645430ebe82024fac4f0a4ea8eeaecd8b69ae"), looks := false }, kinds := [], alts := [], laidByText := true, laidKinds := [.data, .data], laidTests := true, laidLooks := .later }
def FilterMatchesUptoCardSaid : Prop := Claim7.holds Tryz.pinned (.plain (OpenSpec.upto filterMatchesSpec)) filterMatchesUptoCard

/-- THE SECOND FORM's CARD OF 'lightclientlaw20.FilterCovers'. -/
def filterCoversUptoCard : Claim7 := { stood := { row := filterCoversUptoRow, standIns := [], harness := (true, "9a8f9165bec1637b5c3859e8a01645430ebe82024fac4f0a4ea8eeaecd8b69ae"), looks := false }, kinds := [], alts := [], laidByText := true, laidKinds := [.data, .data], laidTests := true, laidLooks := .later }
def FilterCoversUptoCardSaid : Prop := Claim7.holds Tryz.pinned (.plain (OpenSpec.upto filterCoversSpec)) filterCoversUptoCard

/-- THE SECOND FORM's CARD OF 'lightclientlaw20.FilterMisses'. -/
def filterMissesUptoCard : Claim7 := { stood := { row := filterMissesUptoRow, standIns := [], harness := (true, "9a8f9165bec1637b5c3859e8a01645430ebe82024fac4f0a4ea8eeaecd8b69ae"), looks := false }, kinds := [], alts := [], laidByText := true, laidKinds := [.data, .data], laidTests := true, laidLooks := .later }
def FilterMissesUptoCardSaid : Prop := Claim7.holds Tryz.pinned (.plain (OpenSpec.upto filterMissesSpec)) filterMissesUptoCard

/-- THE SECOND FORM's CARD OF 'lightclientlaw20.FilterBack'. -/
def filterBackUptoCard : Claim7 := { stood := { row := filterBackUptoRow, standIns := [], harness := (true, "9a8f9165bec1637b5c3859e8a01645430ebe82024fac4f0a4ea8eeaecd8b69ae"), looks := false }, kinds := [], alts := [], laidByText := true, laidKinds := [.data, .data], laidTests := true, laidLooks := .later }
def FilterBackUptoCardSaid : Prop := Claim7.holds Tryz.pinned (.plain (OpenSpec.upto filterBackSpec)) filterBackUptoCard

/-- THE SECOND FORM's CARD OF 'lightclientlaw20.FilterEncodes'. -/
def filterEncodesUptoCard : Claim7 := { stood := { row := filterEncodesUptoRow, standIns := [], harness := (true, "9a8f9165bec1637b5c3859e8a01645430ebe82024fac4f0a4ea8eeaecd8b69ae"), looks := false }, kinds := [], alts := [], laidByText := true, laidKinds := [.data, .data], laidTests := true, laidLooks := .later }
def FilterEncodesUptoCardSaid : Prop := Claim7.holds Tryz.pinned (.plain (OpenSpec.upto filterEncodesSpec)) filterEncodesUptoCard
end Rows
end Go.Proofs.YthpkpciceodioaaGreatDoor
