/-
  NARROWER THAN 'FOR EVERY INPUT', by the rows' own cells (each row's printed sentence says how): FilterOf: laid · FilterMatches: laid · FilterCovers: laid · FilterMisses: laid · FilterBack: laid · FilterEncodes: laid.
  DERIVED. THE GIVEN ROWS OF THIS SEAT. 6 by the template 'for every input the law returns true; each argument reads behind the call as it read before'; 0 by the template 'total and deterministic' (their statements: YthpkpciceodioaaGreatDoorTotals.lean).
  GIVEN WITH THE SEED: the statements are not yours to turn. If you find one false, say at which input.
  Laid BY PROGRAM, IN A SANDBOX (cutbox-rows.mjs): the forced cells as the released guide's own fill.sh prints them over the translation 88fd331c64b9f28b… (all of the seat's roots in one cut). By AI agents, Wed Nov 11 2026. No macro, syntax, notation, axiom, sorry.
-/
import Derived.Test.YthpkpciceodioaaGreatDoorChecked
import GoSem.Claim
import GoSem.ClaimJoined
import GoSem.ClaimMapViews
import Derived.JoinedTies
import Derived.KernelRfl
namespace Go.Proofs.YthpkpciceodioaaGreatDoor
/- THE CELL 'sum', in the pinned program and in every row, IS THE sha256 OF THE DUMP (.gsa) THAT YthpkpciceodioaaGreatDoorProg.lean LOADS. Nothing in Lean hashes anything: it is a label: what it is worth is what the hold of that sum in a sandbox is worth. -/
noncomputable def Tryz.pinned : Pinned := { name := "ythpkpciceodioaagreatdoor", sum := "88fd331c64b9f28bafd6480e1c938990d1204f2468ec4d96795bc689b408e76c", checked := Tryz.checked }
namespace Rows
def none {H : Type} : Left H := { results := [], args := [] }

/- WHAT THE LISTED PACKAGE-LEVEL VARIABLES READ AS WHEN THE CALL BEGINS. Each datum BY PROGRAM (the guide's laid-datum.mjs) off the statement by which the dump's own 'gosem.cut.vars' lays the variable. In a bare row this is a premise. The card (YthpkpciceodioaaGreatDoorCards.lean) ties it to the program's text. -/
def laid_lightclient_sha_k {H : Type} : DataW H := .agg [.lit (.int .u32 1116352408), .lit (.int .u32 1899447441), .lit (.int .u32 3049323471), .lit (.int .u32 3921009573), .lit (.int .u32 961987163), .lit (.int .u32 1508970993), .lit (.int .u32 2453635748), .lit (.int .u32 2870763221), .lit (.int .u32 3624381080), .lit (.int .u32 310598401), .lit (.int .u32 607225278), .lit (.int .u32 1426881987), .lit (.int .u32 1925078388), .lit (.int .u32 2162078206), .lit (.int .u32 2614888103), .lit (.int .u32 3248222580), .lit (.int .u32 3835390401), .lit (.int .u32 4022224774), .lit (.int .u32 264347078), .lit (.int .u32 604807628), .lit (.int .u32 770255983), .lit (.int .u32 1249150122), .lit (.int .u32 1555081692), .lit (.int .u32 1996064986), .lit (.int .u32 2554220882), .lit (.int .u32 2821834349), .lit (.int .u32 2952996808), .lit (.int .u32 3210313671), .lit (.int .u32 3336571891), .lit (.int .u32 3584528711), .lit (.int .u32 113926993), .lit (.int .u32 338241895), .lit (.int .u32 666307205), .lit (.int .u32 773529912), .lit (.int .u32 1294757372), .lit (.int .u32 1396182291), .lit (.int .u32 1695183700), .lit (.int .u32 1986661051), .lit (.int .u32 2177026350), .lit (.int .u32 2456956037), .lit (.int .u32 2730485921), .lit (.int .u32 2820302411), .lit (.int .u32 3259730800), .lit (.int .u32 3345764771), .lit (.int .u32 3516065817), .lit (.int .u32 3600352804), .lit (.int .u32 4094571909), .lit (.int .u32 275423344), .lit (.int .u32 430227734), .lit (.int .u32 506948616), .lit (.int .u32 659060556), .lit (.int .u32 883997877), .lit (.int .u32 958139571), .lit (.int .u32 1322822218), .lit (.int .u32 1537002063), .lit (.int .u32 1747873779), .lit (.int .u32 1955562222), .lit (.int .u32 2024104815), .lit (.int .u32 2227730452), .lit (.int .u32 2361852424), .lit (.int .u32 2428436474), .lit (.int .u32 2756734187), .lit (.int .u32 3204031479), .lit (.int .u32 3329325298)]
def laid_lightclient_sha_initial {H : Type} : DataW H := .agg [.lit (.int .u32 1779033703), .lit (.int .u32 3144134277), .lit (.int .u32 1013904242), .lit (.int .u32 2773480762), .lit (.int .u32 1359893119), .lit (.int .u32 2600822924), .lit (.int .u32 528734635), .lit (.int .u32 1541459225)]

/-- 'lightclientlaw20.FilterOf': WHATEVER THE INPUT: true; the input reads as it did. -/
def filterOfSpec : ChangeSpec := { name := "filterOf", fn := fun _ => fun
  | [d] => { results := [.lit (.bool true)], args := [d] }
  | _ => none }
def filterOfRow : OpenClaim := { program := "ythpkpciceodioaagreatdoor", sum := "88fd331c64b9f28bafd6480e1c938990d1204f2468ec4d96795bc689b408e76c", func := "lightclient/lightclientlaw20.FilterOf", spec := "filterOf", inPlace := ["math/bits.Add64", "math/bits.Sub64"], recurses := true, named := ["lightclient/sha.initial", "lightclient/sha.k"], apart := false, laid := [("lightclient/sha.k", laid_lightclient_sha_k), ("lightclient/sha.initial", laid_lightclient_sha_initial)] }
def FilterOfSaid : Prop := filterOfRow.holds Tryz.pinned (OpenSpec.ofChange filterOfSpec)

/-- ITS FALSE NEIGHBOUR: 'it returns false'. Refute it at one input. -/
def filterOfWrong : ChangeSpec := { name := "filterOf", fn := fun _ => fun
  | [d] => { results := [.lit (.bool false)], args := [d] }
  | _ => none }
def FilterOfWrongFalsely : Prop := filterOfRow.holds Tryz.pinned (OpenSpec.ofChange filterOfWrong)

/-- 'lightclientlaw20.FilterMatches': WHATEVER THE INPUT: true; the input reads as it did. -/
def filterMatchesSpec : ChangeSpec := { name := "filterMatches", fn := fun _ => fun
  | [d1, d2, d3] => { results := [.lit (.bool true)], args := [d1, d2, d3] }
  | _ => none }
def filterMatchesRow : OpenClaim := { program := "ythpkpciceodioaagreatdoor", sum := "88fd331c64b9f28bafd6480e1c938990d1204f2468ec4d96795bc689b408e76c", func := "lightclient/lightclientlaw20.FilterMatches", spec := "filterMatches", inPlace := ["math/bits.Add64", "math/bits.Sub64"], recurses := true, named := ["lightclient/sha.initial", "lightclient/sha.k"], apart := false, laid := [("lightclient/sha.k", laid_lightclient_sha_k), ("lightclient/sha.initial", laid_lightclient_sha_initial)] }
def FilterMatchesSaid : Prop := filterMatchesRow.holds Tryz.pinned (OpenSpec.ofChange filterMatchesSpec)

/-- ITS FALSE NEIGHBOUR: 'it returns false'. Refute it at one input. -/
def filterMatchesWrong : ChangeSpec := { name := "filterMatches", fn := fun _ => fun
  | [d1, d2, d3] => { results := [.lit (.bool false)], args := [d1, d2, d3] }
  | _ => none }
def FilterMatchesWrongFalsely : Prop := filterMatchesRow.holds Tryz.pinned (OpenSpec.ofChange filterMatchesWrong)

/-- 'lightclientlaw20.FilterCovers': WHATEVER THE INPUT: true; the input reads as it did. -/
def filterCoversSpec : ChangeSpec := { name := "filterCovers", fn := fun _ => fun
  | [d1, d2] => { results := [.lit (.bool true)], args := [d1, d2] }
  | _ => none }
def filterCoversRow : OpenClaim := { program := "ythpkpciceodioaagreatdoor", sum := "88fd331c64b9f28bafd6480e1c938990d1204f2468ec4d96795bc689b408e76c", func := "lightclient/lightclientlaw20.FilterCovers", spec := "filterCovers", inPlace := ["math/bits.Add64", "math/bits.Sub64"], recurses := true, named := ["lightclient/sha.initial", "lightclient/sha.k"], apart := false, laid := [("lightclient/sha.k", laid_lightclient_sha_k), ("lightclient/sha.initial", laid_lightclient_sha_initial)] }
def FilterCoversSaid : Prop := filterCoversRow.holds Tryz.pinned (OpenSpec.ofChange filterCoversSpec)

/-- ITS FALSE NEIGHBOUR: 'it returns false'. Refute it at one input. -/
def filterCoversWrong : ChangeSpec := { name := "filterCovers", fn := fun _ => fun
  | [d1, d2] => { results := [.lit (.bool false)], args := [d1, d2] }
  | _ => none }
def FilterCoversWrongFalsely : Prop := filterCoversRow.holds Tryz.pinned (OpenSpec.ofChange filterCoversWrong)

/-- 'lightclientlaw20.FilterMisses': WHATEVER THE INPUT: true; the input reads as it did. -/
def filterMissesSpec : ChangeSpec := { name := "filterMisses", fn := fun _ => fun
  | [d1, d2, d3] => { results := [.lit (.bool true)], args := [d1, d2, d3] }
  | _ => none }
def filterMissesRow : OpenClaim := { program := "ythpkpciceodioaagreatdoor", sum := "88fd331c64b9f28bafd6480e1c938990d1204f2468ec4d96795bc689b408e76c", func := "lightclient/lightclientlaw20.FilterMisses", spec := "filterMisses", inPlace := ["math/bits.Add64", "math/bits.Sub64"], recurses := true, named := ["lightclient/sha.initial", "lightclient/sha.k"], apart := false, laid := [("lightclient/sha.k", laid_lightclient_sha_k), ("lightclient/sha.initial", laid_lightclient_sha_initial)] }
def FilterMissesSaid : Prop := filterMissesRow.holds Tryz.pinned (OpenSpec.ofChange filterMissesSpec)

/-- ITS FALSE NEIGHBOUR: 'it returns false'. Refute it at one input. -/
def filterMissesWrong : ChangeSpec := { name := "filterMisses", fn := fun _ => fun
  | [d1, d2, d3] => { results := [.lit (.bool false)], args := [d1, d2, d3] }
  | _ => none }
def FilterMissesWrongFalsely : Prop := filterMissesRow.holds Tryz.pinned (OpenSpec.ofChange filterMissesWrong)

/-- 'lightclientlaw20.FilterBack': WHATEVER THE INPUT: true; the input reads as it did. -/
def filterBackSpec : ChangeSpec := { name := "filterBack", fn := fun _ => fun
  | [d1, d2] => { results := [.lit (.bool true)], args := [d1, d2] }
  | _ => none }
def filterBackRow : OpenClaim := { program := "ythpkpciceodioaagreatdoor", sum := "88fd331c64b9f28bafd6480e1c938990d1204f2468ec4d96795bc689b408e76c", func := "lightclient/lightclientlaw20.FilterBack", spec := "filterBack", inPlace := ["math/bits.Add64", "math/bits.Sub64"], recurses := true, named := ["lightclient/sha.initial", "lightclient/sha.k"], apart := false, laid := [("lightclient/sha.k", laid_lightclient_sha_k), ("lightclient/sha.initial", laid_lightclient_sha_initial)] }
def FilterBackSaid : Prop := filterBackRow.holds Tryz.pinned (OpenSpec.ofChange filterBackSpec)

/-- ITS FALSE NEIGHBOUR: 'it returns false'. Refute it at one input. -/
def filterBackWrong : ChangeSpec := { name := "filterBack", fn := fun _ => fun
  | [d1, d2] => { results := [.lit (.bool false)], args := [d1, d2] }
  | _ => none }
def FilterBackWrongFalsely : Prop := filterBackRow.holds Tryz.pinned (OpenSpec.ofChange filterBackWrong)

/-- 'lightclientlaw20.FilterEncodes': WHATEVER THE INPUT: true; the input reads as it did. -/
def filterEncodesSpec : ChangeSpec := { name := "filterEncodes", fn := fun _ => fun
  | [d1, d2, d3, d4] => { results := [.lit (.bool true)], args := [d1, d2, d3, d4] }
  | _ => none }
def filterEncodesRow : OpenClaim := { program := "ythpkpciceodioaagreatdoor", sum := "88fd331c64b9f28bafd6480e1c938990d1204f2468ec4d96795bc689b408e76c", func := "lightclient/lightclientlaw20.FilterEncodes", spec := "filterEncodes", inPlace := ["math/bits.Add64", "math/bits.Sub64"], recurses := true, named := ["lightclient/sha.initial", "lightclient/sha.k"], apart := false, laid := [("lightclient/sha.k", laid_lightclient_sha_k), ("lightclient/sha.initial", laid_lightclient_sha_initial)] }
def FilterEncodesSaid : Prop := filterEncodesRow.holds Tryz.pinned (OpenSpec.ofChange filterEncodesSpec)

/-- ITS FALSE NEIGHBOUR: 'it returns false'. Refute it at one input. -/
def filterEncodesWrong : ChangeSpec := { name := "filterEncodes", fn := fun _ => fun
  | [d1, d2, d3, d4] => { results := [.lit (.bool false)], args := [d1, d2, d3, d4] }
  | _ => none }
def FilterEncodesWrongFalsely : Prop := filterEncodesRow.holds Tryz.pinned (OpenSpec.ofChange filterEncodesWrong)

/- THE SECOND FORM. 'bulk': how many values and letters a reading holds, each counted each time it is reached (what is shared counts as often as it is met; a slice's spare places count too). A statement '..UptoSaid' is the law's where the arguments, and the package variables that the reading takes, are together of bulk at most 1048576: NARROWER than '..Said'. Prove '..Said' where nothing that the law and all that it calls make is longer than what came in: it says more and counts as full. Else prove '..UptoSaid'. A law counts once. -/
mutual
def uptoBulk {H : Type} : DataW H → Nat
  | .lit (.string bytes) => bytes.length + 1
  | .lit _ => 1
  | .nil => 1
  | .ptr d => uptoBulk d + 1
  | .slice elems spare => uptoBulkAll elems + uptoBulkAll spare + 1
  | .agg parts => uptoBulkAll parts + 1
  | .iface _ d => uptoBulk d + 1
  | .map entries => uptoBulkEntries entries + 1
  | .held _ => 1
def uptoBulkAll {H : Type} : List (DataW H) → Nat
  | [] => 0
  | d :: r => uptoBulk d + uptoBulkAll r
def uptoBulkEntries {H : Type} : List (Lit × DataW H) → Nat
  | [] => 0
  | x :: r => uptoBulkEntry x + uptoBulkEntries r
def uptoBulkEntry {H : Type} : Lit × DataW H → Nat
  | (.string bytes, d) => bytes.length + uptoBulk d + 1
  | (_, d) => uptoBulk d + 1
 end
def uptoSmall : (H : Type) → List (DataW H) → Bool := fun _ ds => decide (uptoBulkAll ds ≤ 1048576)
def OpenSpec.upto (s : _root_.Go.ChangeSpec) : _root_.Go.OpenSpec := { _root_.Go.OpenSpec.ofChange s with cond := some uptoSmall }

/-- 'lightclientlaw20.FilterOf', WHERE WHAT IT READS IS OF BULK AT MOST 1048576: true; the input reads as it did. -/
def filterOfUptoRow : OpenClaim := { program := "ythpkpciceodioaagreatdoor", sum := "88fd331c64b9f28bafd6480e1c938990d1204f2468ec4d96795bc689b408e76c", func := "lightclient/lightclientlaw20.FilterOf", spec := "filterOf", inPlace := ["math/bits.Add64", "math/bits.Sub64"], recurses := true, named := ["lightclient/sha.initial", "lightclient/sha.k"], apart := false, laid := [("lightclient/sha.k", laid_lightclient_sha_k), ("lightclient/sha.initial", laid_lightclient_sha_initial)], narrowed := true }
def FilterOfUptoSaid : Prop := filterOfUptoRow.holds Tryz.pinned (OpenSpec.upto filterOfSpec)

/-- 'lightclientlaw20.FilterMatches', WHERE WHAT IT READS IS OF BULK AT MOST 1048576: true; the input reads as it did. -/
def filterMatchesUptoRow : OpenClaim := { program := "ythpkpciceodioaagreatdoor", sum := "88fd331c64b9f28bafd6480e1c938990d1204f2468ec4d96795bc689b408e76c", func := "lightclient/lightclientlaw20.FilterMatches", spec := "filterMatches", inPlace := ["math/bits.Add64", "math/bits.Sub64"], recurses := true, named := ["lightclient/sha.initial", "lightclient/sha.k"], apart := false, laid := [("lightclient/sha.k", laid_lightclient_sha_k), ("lightclient/sha.initial", laid_lightclient_sha_initial)], narrowed := true }
def FilterMatchesUptoSaid : Prop := filterMatchesUptoRow.holds Tryz.pinned (OpenSpec.upto filterMatchesSpec)

/-- 'lightclientlaw20.FilterCovers', WHERE WHAT IT READS IS OF BULK AT MOST 1048576: true; the input reads as it did. -/
def filterCoversUptoRow : OpenClaim := { program := "ythpkpciceodioaagreatdoor", sum := "88fd331c64b9f28bafd6480e1c938990d1204f2468ec4d96795bc689b408e76c", func := "lightclient/lightclientlaw20.FilterCovers", spec := "filterCovers", inPlace := ["math/bits.Add64", "math/bits.Sub64"], recurses := true, named := ["lightclient/sha.initial", "lightclient/sha.k"], apart := false, laid := [("lightclient/sha.k", laid_lightclient_sha_k), ("lightclient/sha.initial", laid_lightclient_sha_initial)], narrowed := true }
def FilterCoversUptoSaid : Prop := filterCoversUptoRow.holds Tryz.pinned (OpenSpec.upto filterCoversSpec)

/-- 'lightclientlaw20.FilterMisses', WHERE WHAT IT READS IS OF BULK AT MOST 1048576: true; the input reads as it did. -/
def filterMissesUptoRow : OpenClaim := { program := "ythpkpciceodioaagreatdoor", sum := "88fd331c64b9f28bafd6480e1c938990d1204f2468ec4d96795bc689b408e76c", func := "lightclient/lightclientlaw20.FilterMisses", spec := "filterMisses", inPlace := ["math/bits.Add64", "math/bits.Sub64"], recurses := true, named := ["lightclient/sha.initial", "lightclient/sha.k"], apart := false, laid := [("lightclient/sha.k", laid_lightclient_sha_k), ("lightclient/sha.initial", laid_lightclient_sha_initial)], narrowed := true }
def FilterMissesUptoSaid : Prop := filterMissesUptoRow.holds Tryz.pinned (OpenSpec.upto filterMissesSpec)

/-- 'lightclientlaw20.FilterBack', WHERE WHAT IT READS IS OF BULK AT MOST 1048576: true; the input reads as it did. -/
def filterBackUptoRow : OpenClaim := { program := "ythpkpciceodioaagreatdoor", sum := "88fd331c64b9f28bafd6480e1c938990d1204f2468ec4d96795bc689b408e76c", func := "lightclient/lightclientlaw20.FilterBack", spec := "filterBack", inPlace := ["math/bits.Add64", "math/bits.Sub64"], recurses := true, named := ["lightclient/sha.initial", "lightclient/sha.k"], apart := false, laid := [("lightclient/sha.k", laid_lightclient_sha_k), ("lightclient/sha.initial", laid_lightclient_sha_initial)], narrowed := true }
def FilterBackUptoSaid : Prop := filterBackUptoRow.holds Tryz.pinned (OpenSpec.upto filterBackSpec)

/-- 'lightclientlaw20.FilterEncodes', WHERE WHAT IT READS IS OF BULK AT MOST 1048576: true; the input reads as it did. -/
def filterEncodesUptoRow : OpenClaim := { program := "ythpkpciceodioaagreatdoor", sum := "88fd331c64b9f28bafd6480e1c938990d1204f2468ec4d96795bc689b408e76c", func := "lightclient/lightclientlaw20.FilterEncodes", spec := "filterEncodes", inPlace := ["math/bits.Add64", "math/bits.Sub64"], recurses := true, named := ["lightclient/sha.initial", "lightclient/sha.k"], apart := false, laid := [("lightclient/sha.k", laid_lightclient_sha_k), ("lightclient/sha.initial", laid_lightclient_sha_initial)], narrowed := true }
def FilterEncodesUptoSaid : Prop := filterEncodesUptoRow.holds Tryz.pinned (OpenSpec.upto filterEncodesSpec)

end Rows
end Go.Proofs.YthpkpciceodioaaGreatDoor
