/-
  DERIVED. GIVEN WITH THE SEED: THE CARDS: each row of YtipochhfofhofaaDoorRows.lean that lists a variable, with what it lists TIED to the program's text (the seventh form; the later family's looks); each row that meets fmt, with fmt's text TOLD by the authors' own Lean function (tested against real Go, not proved from fmt's source: count such statements apart). THE CARD IS WHAT COUNTS. Prove the row's statement (the work); the ties are given (YtipochhfofhofaaDoorTie.lean); close each card by the builder's one call (the guide's Derived/Test/ToyasCard.lean, 'card_holds'). Laid BY PROGRAM, IN A SANDBOX (cutbox-door.mjs). By AI agents, Wed Nov 11 2026. No macro, syntax, notation, axiom, sorry.
-/
import Derived.Test.YtipochhfofhofaaDoorRows
import GoSem.ClaimSeven
namespace Go.Proofs.YtipochhfofhofaaDoor
namespace Rows

/-- THE TIED CARD OF 'lightclientlaw21.FilterchainExtends'. -/
def filterchainExtendsCard : Claim7 := { stood := { row := filterchainExtendsRow, standIns := [], harness := (true, "1f997a5f4f4cc078fd00e1dcefcf4559be8a6569f432705327e675b31750c231"), looks := false }, kinds := [], alts := [], laidByText := true, laidKinds := [.data, .data], laidTests := true, laidLooks := .later }
def FilterchainExtendsCardSaid : Prop := Claim7.holds Tryd.pinned (.plain (OpenSpec.ofChange filterchainExtendsSpec)) filterchainExtendsCard

/-- THE TIED CARD OF 'lightclientlaw21.FilterchainChecks'. -/
def filterchainChecksCard : Claim7 := { stood := { row := filterchainChecksRow, standIns := [], harness := (true, "1f997a5f4f4cc078fd00e1dcefcf4559be8a6569f432705327e675b31750c231"), looks := false }, kinds := [], alts := [], laidByText := true, laidKinds := [.data, .data], laidTests := true, laidLooks := .later }
def FilterchainChecksCardSaid : Prop := Claim7.holds Tryd.pinned (.plain (OpenSpec.ofChange filterchainChecksSpec)) filterchainChecksCard

/-- THE TIED CARD OF 'lightclientlaw21.FilterchainRewinds'. -/
def filterchainRewindsCard : Claim7 := { stood := { row := filterchainRewindsRow, standIns := [], harness := (true, "1f997a5f4f4cc078fd00e1dcefcf4559be8a6569f432705327e675b31750c231"), looks := false }, kinds := [], alts := [], laidByText := true, laidKinds := [.data, .data], laidTests := true, laidLooks := .later }
def FilterchainRewindsCardSaid : Prop := Claim7.holds Tryd.pinned (.plain (OpenSpec.ofChange filterchainRewindsSpec)) filterchainRewindsCard

/-- THE TIED CARD OF 'lightclientlaw21.FilterchainFollows'. -/
def filterchainFollowsCard : Claim7 := { stood := { row := filterchainFollowsRow, standIns := [], harness := (true, "1f997a5f4f4cc078fd00e1dcefcf4559be8a6569f432705327e675b31750c231"), looks := false }, kinds := [], alts := [], laidByText := true, laidKinds := [.data, .data], laidTests := true, laidLooks := .later }
def FilterchainFollowsCardSaid : Prop := Claim7.holds Tryd.pinned (.plain (OpenSpec.ofChange filterchainFollowsSpec)) filterchainFollowsCard

/-- THE TIED CARD OF 'lightclientlaw21.FilterchainVerifies'. -/
def filterchainVerifiesCard : Claim7 := { stood := { row := filterchainVerifiesRow, standIns := [], harness := (true, "1f997a5f4f4cc078fd00e1dcefcf4559be8a6569f432705327e675b31750c231"), looks := false }, kinds := [], alts := [], laidByText := true, laidKinds := [.data, .data], laidTests := true, laidLooks := .later }
def FilterchainVerifiesCardSaid : Prop := Claim7.holds Tryd.pinned (.plain (OpenSpec.ofChange filterchainVerifiesSpec)) filterchainVerifiesCard

/-- THE SECOND FORM's CARD OF 'lightclientlaw21.FilterchainExtends'. -/
def filterchainExtendsUptoCard : Claim7 := { stood := { row := filterchainExtendsUptoRow, standIns := [], harness := (true, "1f997a5f4f4cc078fd00e1dcefcf4559be8a6569f432705327e675b31750c231"), looks := false }, kinds := [], alts := [], laidByText := true, laidKinds := [.data, .data], laidTests := true, laidLooks := .later }
def FilterchainExtendsUptoCardSaid : Prop := Claim7.holds Tryd.pinned (.plain (OpenSpec.upto filterchainExtendsSpec)) filterchainExtendsUptoCard

/-- THE SECOND FORM's CARD OF 'lightclientlaw21.FilterchainChecks'. -/
def filterchainChecksUptoCard : Claim7 := { stood := { row := filterchainChecksUptoRow, standIns := [], harness := (true, "1f997a5f4f4cc078fd00e1dcefcf4559be8a6569f432705327e675b31750c231"), looks := false }, kinds := [], alts := [], laidByText := true, laidKinds := [.data, .data], laidTests := true, laidLooks := .later }
def FilterchainChecksUptoCardSaid : Prop := Claim7.holds Tryd.pinned (.plain (OpenSpec.upto filterchainChecksSpec)) filterchainChecksUptoCard

/-- THE SECOND FORM's CARD OF 'lightclientlaw21.FilterchainRewinds'. -/
def filterchainRewindsUptoCard : Claim7 := { stood := { row := filterchainRewindsUptoRow, standIns := [], harness := (true, "1f997a5f4f4cc078fd00e1dcefcf4559be8a6569f432705327e675b31750c231"), looks := false }, kinds := [], alts := [], laidByText := true, laidKinds := [.data, .data], laidTests := true, laidLooks := .later }
def FilterchainRewindsUptoCardSaid : Prop := Claim7.holds Tryd.pinned (.plain (OpenSpec.upto filterchainRewindsSpec)) filterchainRewindsUptoCard

/-- THE SECOND FORM's CARD OF 'lightclientlaw21.FilterchainFollows'. -/
def filterchainFollowsUptoCard : Claim7 := { stood := { row := filterchainFollowsUptoRow, standIns := [], harness := (true, "1f997a5f4f4cc078fd00e1dcefcf4559be8a6569f432705327e675b31750c231"), looks := false }, kinds := [], alts := [], laidByText := true, laidKinds := [.data, .data], laidTests := true, laidLooks := .later }
def FilterchainFollowsUptoCardSaid : Prop := Claim7.holds Tryd.pinned (.plain (OpenSpec.upto filterchainFollowsSpec)) filterchainFollowsUptoCard

/-- THE SECOND FORM's CARD OF 'lightclientlaw21.FilterchainVerifies'. -/
def filterchainVerifiesUptoCard : Claim7 := { stood := { row := filterchainVerifiesUptoRow, standIns := [], harness := (true, "1f997a5f4f4cc078fd00e1dcefcf4559be8a6569f432705327e675b31750c231"), looks := false }, kinds := [], alts := [], laidByText := true, laidKinds := [.data, .data], laidTests := true, laidLooks := .later }
def FilterchainVerifiesUptoCardSaid : Prop := Claim7.holds Tryd.pinned (.plain (OpenSpec.upto filterchainVerifiesSpec)) filterchainVerifiesUptoCard
end Rows
end Go.Proofs.YtipochhfofhofaaDoor
