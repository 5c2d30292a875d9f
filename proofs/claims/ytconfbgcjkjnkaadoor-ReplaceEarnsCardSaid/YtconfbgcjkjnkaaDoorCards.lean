/-
  DERIVED. GIVEN WITH THE SEED: THE CARDS: each row of YtconfbgcjkjnkaaDoorRows.lean that lists a variable, with what it lists TIED to the program's text (the seventh form; the later family's looks); each row that meets fmt, with fmt's text TOLD by the authors' own Lean function (tested against real Go, not proved from fmt's source: count such statements apart). THE CARD IS WHAT COUNTS. Prove the row's statement (the work); the ties are given (YtconfbgcjkjnkaaDoorTie.lean); close each card by the builder's one call (the guide's Derived/Test/ToyasCard.lean, 'card_holds'). Laid BY PROGRAM, IN A SANDBOX (cutbox-door.mjs). By AI agents, Wed Nov 11 2026. No macro, syntax, notation, axiom, sorry.
-/
import Derived.Test.YtconfbgcjkjnkaaDoorRows
import GoSem.ClaimSeven
namespace Go.Proofs.YtconfbgcjkjnkaaDoor
namespace Rows

/-- THE TIED CARD OF 'lightclientlaw36.ReplaceSignals'. -/
def replaceSignalsCard : Claim7 := { stood := { row := replaceSignalsRow, standIns := [], harness := (true, "490e9bc9691af73920bddb72eef6aaf780fa1074d8589e49443ad358745be150"), looks := false }, kinds := [], alts := [], laidByText := true, laidKinds := [.data, .data], laidTests := true, laidLooks := .later }
def ReplaceSignalsCardSaid : Prop := Claim7.holds Tryd.pinned (.plain (OpenSpec.ofChange replaceSignalsSpec)) replaceSignalsCard

/-- THE TIED CARD OF 'lightclientlaw36.ReplaceAccepts'. -/
def replaceAcceptsCard : Claim7 := { stood := { row := replaceAcceptsRow, standIns := [], harness := (true, "490e9bc9691af73920bddb72eef6aaf780fa1074d8589e49443ad358745be150"), looks := false }, kinds := [], alts := [], laidByText := true, laidKinds := [.data, .data], laidTests := true, laidLooks := .later }
def ReplaceAcceptsCardSaid : Prop := Claim7.holds Tryd.pinned (.plain (OpenSpec.ofChange replaceAcceptsSpec)) replaceAcceptsCard

/-- THE TIED CARD OF 'lightclientlaw36.ReplaceEarns'. -/
def replaceEarnsCard : Claim7 := { stood := { row := replaceEarnsRow, standIns := [], harness := (true, "490e9bc9691af73920bddb72eef6aaf780fa1074d8589e49443ad358745be150"), looks := false }, kinds := [], alts := [], laidByText := true, laidKinds := [.data, .data], laidTests := true, laidLooks := .later }
def ReplaceEarnsCardSaid : Prop := Claim7.holds Tryd.pinned (.plain (OpenSpec.ofChange replaceEarnsSpec)) replaceEarnsCard

/-- THE TIED CARD OF 'lightclientlaw36.ReplaceBumps'. -/
def replaceBumpsCard : Claim7 := { stood := { row := replaceBumpsRow, standIns := [], harness := (true, "490e9bc9691af73920bddb72eef6aaf780fa1074d8589e49443ad358745be150"), looks := false }, kinds := [], alts := [], laidByText := true, laidKinds := [.data, .data], laidTests := true, laidLooks := .later }
def ReplaceBumpsCardSaid : Prop := Claim7.holds Tryd.pinned (.plain (OpenSpec.ofChange replaceBumpsSpec)) replaceBumpsCard

/-- THE TIED CARD OF 'lightclientlaw36.ReplaceRises'. -/
def replaceRisesCard : Claim7 := { stood := { row := replaceRisesRow, standIns := [], harness := (true, "490e9bc9691af73920bddb72eef6aaf780fa1074d8589e49443ad358745be150"), looks := false }, kinds := [], alts := [], laidByText := true, laidKinds := [.data, .data], laidTests := true, laidLooks := .later }
def ReplaceRisesCardSaid : Prop := Claim7.holds Tryd.pinned (.plain (OpenSpec.ofChange replaceRisesSpec)) replaceRisesCard

/-- THE SECOND FORM's CARD OF 'lightclientlaw36.ReplaceSignals'. -/
def replaceSignalsUptoCard : Claim7 := { stood := { row := replaceSignalsUptoRow, standIns := [], harness := (true, "490e9bc9691af73920bddb72eef6aaf780fa1074d8589e49443ad358745be150"), looks := false }, kinds := [], alts := [], laidByText := true, laidKinds := [.data, .data], laidTests := true, laidLooks := .later }
def ReplaceSignalsUptoCardSaid : Prop := Claim7.holds Tryd.pinned (.plain (OpenSpec.upto replaceSignalsSpec)) replaceSignalsUptoCard

/-- THE SECOND FORM's CARD OF 'lightclientlaw36.ReplaceAccepts'. -/
def replaceAcceptsUptoCard : Claim7 := { stood := { row := replaceAcceptsUptoRow, standIns := [], harness := (true, "490e9bc9691af73920bddb72eef6aaf780fa1074d8589e49443ad358745be150"), looks := false }, kinds := [], alts := [], laidByText := true, laidKinds := [.data, .data], laidTests := true, laidLooks := .later }
def ReplaceAcceptsUptoCardSaid : Prop := Claim7.holds Tryd.pinned (.plain (OpenSpec.upto replaceAcceptsSpec)) replaceAcceptsUptoCard

/-- THE SECOND FORM's CARD OF 'lightclientlaw36.ReplaceEarns'. -/
def replaceEarnsUptoCard : Claim7 := { stood := { row := replaceEarnsUptoRow, standIns := [], harness := (true, "490e9bc9691af73920bddb72eef6aaf780fa1074d8589e49443ad358745be150"), looks := false }, kinds := [], alts := [], laidByText := true, laidKinds := [.data, .data], laidTests := true, laidLooks := .later }
def ReplaceEarnsUptoCardSaid : Prop := Claim7.holds Tryd.pinned (.plain (OpenSpec.upto replaceEarnsSpec)) replaceEarnsUptoCard

/-- THE SECOND FORM's CARD OF 'lightclientlaw36.ReplaceBumps'. -/
def replaceBumpsUptoCard : Claim7 := { stood := { row := replaceBumpsUptoRow, standIns := [], harness := (true, "490e9bc9691af73920bddb72eef6aaf780fa1074d8589e49443ad358745be150"), looks := false }, kinds := [], alts := [], laidByText := true, laidKinds := [.data, .data], laidTests := true, laidLooks := .later }
def ReplaceBumpsUptoCardSaid : Prop := Claim7.holds Tryd.pinned (.plain (OpenSpec.upto replaceBumpsSpec)) replaceBumpsUptoCard

/-- THE SECOND FORM's CARD OF 'lightclientlaw36.ReplaceRises'. -/
def replaceRisesUptoCard : Claim7 := { stood := { row := replaceRisesUptoRow, standIns := [], harness := (true, "490e9bc9691af73920bddb72eef6aaf780fa1074d8589e49443ad358745be150"), looks := false }, kinds := [], alts := [], laidByText := true, laidKinds := [.data, .data], laidTests := true, laidLooks := .later }
def ReplaceRisesUptoCardSaid : Prop := Claim7.holds Tryd.pinned (.plain (OpenSpec.upto replaceRisesSpec)) replaceRisesUptoCard
end Rows
end Go.Proofs.YtconfbgcjkjnkaaDoor
