/-
  DERIVED. GIVEN WITH THE SEED: THE CARDS: each row of YtbppknpnmjhjpaaGreatDoorRows.lean that lists a variable, with what it lists TIED to the program's text (the seventh form; the later family's looks); each row that meets fmt, with fmt's text TOLD by the authors' own Lean function (tested against real Go, not proved from fmt's source: count such statements apart). THE CARD IS WHAT COUNTS. Prove the row's statement (the work); the ties are given (YtbppknpnmjhjpaaGreatDoorTie.lean); close each card by the builder's one call (the guide's Derived/Test/ToyasCard.lean, 'card_holds'). Laid BY PROGRAM, IN A SANDBOX (cutbox-door.mjs). By AI agents, Wed Nov 11 2026. No macro, syntax, notation, axiom, sorry.
-/
import Derived.Test.YtbppknpnmjhjpaaGreatDoorRows
import GoSem.ClaimSeven
namespace Go.Proofs.YtbppknpnmjhjpaaGreatDoor
namespace Rows

/-- THE TIED CARD OF 'lightclientlaw22.DisputeJudges'. -/
def disputeJudgesCard : Claim7 := { stood := { row := disputeJudgesRow, standIns := [], harness := (true, "92510ae90e98333cdd09c0833be47f2c89a60695eda6ab9a79dafb195d3c0d63"), looks := false }, kinds := [], alts := [], laidByText := true, laidKinds := [.data, .data], laidTests := true, laidLooks := .later }
def DisputeJudgesCardSaid : Prop := Claim7.holds Tryz.pinned (.plain (OpenSpec.ofChange disputeJudgesSpec)) disputeJudgesCard

/-- THE TIED CARD OF 'lightclientlaw22.DisputeHonest'. -/
def disputeHonestCard : Claim7 := { stood := { row := disputeHonestRow, standIns := [], harness := (true, "92510ae90e98333cdd09c0833be47f2c89a60695eda6ab9a79dafb195d3c0d63"), looks := false }, kinds := [], alts := [], laidByText := true, laidKinds := [.data, .data], laidTests := true, laidLooks := .later }
def DisputeHonestCardSaid : Prop := Claim7.holds Tryz.pinned (.plain (OpenSpec.ofChange disputeHonestSpec)) disputeHonestCard

/-- THE SECOND FORM's CARD OF 'lightclientlaw22.DisputeJudges'. -/
def disputeJudgesUptoCard : Claim7 := { stood := { row := disputeJudgesUptoRow, standIns := [], harness := (true, "92510ae90e98333cdd09c0833be47f2c89a60695eda6ab9a79dafb195d3c0d63"), looks := false }, kinds := [], alts := [], laidByText := true, laidKinds := [.data, .data], laidTests := true, laidLooks := .later }
def DisputeJudgesUptoCardSaid : Prop := Claim7.holds Tryz.pinned (.plain (OpenSpec.upto disputeJudgesSpec)) disputeJudgesUptoCard

/-- THE SECOND FORM's CARD OF 'lightclientlaw22.DisputeHonest'. -/
def disputeHonestUptoCard : Claim7 := { stood := { row := disputeHonestUptoRow, standIns := [], harness := (true, "92510ae90e98333cdd09c0833be47f2c89a60695eda6ab9a79dafb195d3c0d63"), looks := false }, kinds := [], alts := [], laidByText := true, laidKinds := [.data, .data], laidTests := true, laidLooks := .later }
def DisputeHonestUptoCardSaid : Prop := Claim7.holds Tryz.pinned (.plain (OpenSpec.upto disputeHonestSpec)) disputeHonestUptoCard
end Rows
end Go.Proofs.YtbppknpnmjhjpaaGreatDoor
