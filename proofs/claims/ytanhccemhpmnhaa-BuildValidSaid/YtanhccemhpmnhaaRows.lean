/-
  No cell of these rows narrows 'for every input' (looked for: loops, veiled, ifaces, maps, wideKeys, modest, calm, conditions, laid).
  DERIVED. THE GIVEN ROWS OF THIS SEAT. 3 by the template 'for every input the law returns true; each argument reads behind the call as it read before'; 0 by the template 'total and deterministic' (their statements: YtanhccemhpmnhaaTotals.lean).
  GIVEN WITH THE SEED: the statements are not yours to turn. If you find one false, say at which input.
  Laid BY PROGRAM, IN A SANDBOX (cutbox-rows.mjs): the forced cells as the released guide's own fill.sh prints them over the translation 4821b5ccc87a4e44… (all of the seat's roots in one cut). By AI agents, Wed Nov 11 2026. No macro, syntax, notation, axiom, sorry.
-/
import Derived.Test.YtanhccemhpmnhaaChecked
import GoSem.Claim
import GoSem.ClaimJoined
import GoSem.ClaimMapViews
import Derived.JoinedTies
import Derived.KernelRfl
namespace Go.Proofs.Ytanhccemhpmnhaa
/- THE CELL 'sum', in the pinned program and in every row, IS THE sha256 OF THE DUMP (.gsa) THAT YtanhccemhpmnhaaProg.lean LOADS. Nothing in Lean hashes anything: it is a label: what it is worth is what the hold of that sum in a sandbox is worth. -/
noncomputable def Try.pinned : Pinned := { name := "ytanhccemhpmnhaa", sum := "4821b5ccc87a4e4412cf193a902e1897f0fbeb63da1cc469207d5f5aca88343b", checked := Try.checked }
namespace Rows
def none {H : Type} : Left H := { results := [], args := [] }

/-- 'lightclientlaw34.BuildWeights': WHATEVER THE INPUT: true; the input reads as it did. -/
def buildWeightsSpec : ChangeSpec := { name := "buildWeights", fn := fun _ => fun
  | [d1, d2, d3, d4] => { results := [.lit (.bool true)], args := [d1, d2, d3, d4] }
  | _ => none }
def buildWeightsRow : OpenClaim := { program := "ytanhccemhpmnhaa", sum := "4821b5ccc87a4e4412cf193a902e1897f0fbeb63da1cc469207d5f5aca88343b", func := "lightclient/lightclientlaw34.BuildWeights", spec := "buildWeights", plainKeys := false, apart := false }
def BuildWeightsSaid : Prop := buildWeightsRow.holds Try.pinned (OpenSpec.ofChange buildWeightsSpec)

/-- ITS FALSE NEIGHBOUR: 'it returns false'. Refute it at one input. -/
def buildWeightsWrong : ChangeSpec := { name := "buildWeights", fn := fun _ => fun
  | [d1, d2, d3, d4] => { results := [.lit (.bool false)], args := [d1, d2, d3, d4] }
  | _ => none }
def BuildWeightsWrongFalsely : Prop := buildWeightsRow.holds Try.pinned (OpenSpec.ofChange buildWeightsWrong)

/-- 'lightclientlaw34.BuildValid': WHATEVER THE INPUT: true; the input reads as it did. -/
def buildValidSpec : ChangeSpec := { name := "buildValid", fn := fun _ => fun
  | [d1, d2, d3] => { results := [.lit (.bool true)], args := [d1, d2, d3] }
  | _ => none }
def buildValidRow : OpenClaim := { program := "ytanhccemhpmnhaa", sum := "4821b5ccc87a4e4412cf193a902e1897f0fbeb63da1cc469207d5f5aca88343b", func := "lightclient/lightclientlaw34.BuildValid", spec := "buildValid", plainKeys := false, apart := false }
def BuildValidSaid : Prop := buildValidRow.holds Try.pinned (OpenSpec.ofChange buildValidSpec)

/-- ITS FALSE NEIGHBOUR: 'it returns false'. Refute it at one input. -/
def buildValidWrong : ChangeSpec := { name := "buildValid", fn := fun _ => fun
  | [d1, d2, d3] => { results := [.lit (.bool false)], args := [d1, d2, d3] }
  | _ => none }
def BuildValidWrongFalsely : Prop := buildValidRow.holds Try.pinned (OpenSpec.ofChange buildValidWrong)

/-- 'lightclientlaw34.BuildBalances': WHATEVER THE INPUT: true; the input reads as it did. -/
def buildBalancesSpec : ChangeSpec := { name := "buildBalances", fn := fun _ => fun
  | [d1, d2, d3, d4] => { results := [.lit (.bool true)], args := [d1, d2, d3, d4] }
  | _ => none }
def buildBalancesRow : OpenClaim := { program := "ytanhccemhpmnhaa", sum := "4821b5ccc87a4e4412cf193a902e1897f0fbeb63da1cc469207d5f5aca88343b", func := "lightclient/lightclientlaw34.BuildBalances", spec := "buildBalances", recurses := true, plainKeys := false, apart := false }
def BuildBalancesSaid : Prop := buildBalancesRow.holds Try.pinned (OpenSpec.ofChange buildBalancesSpec)

/-- ITS FALSE NEIGHBOUR: 'it returns false'. Refute it at one input. -/
def buildBalancesWrong : ChangeSpec := { name := "buildBalances", fn := fun _ => fun
  | [d1, d2, d3, d4] => { results := [.lit (.bool false)], args := [d1, d2, d3, d4] }
  | _ => none }
def BuildBalancesWrongFalsely : Prop := buildBalancesRow.holds Try.pinned (OpenSpec.ofChange buildBalancesWrong)

/- THE SECOND FORM. 'bulk': how many values and letters a reading holds, each counted each time it is reached (what is shared counts as often as it is met; a slice's spare places count too). A statement '..UptoSaid' is the law's where the arguments, and the package variables that the reading takes, are together of bulk at most 1048576: NARROWER than '..Said'. Prove '..Said' where nothing that the law and all that it calls make is longer than what came in: it says more and counts as full. Else prove '..UptoSaid'. A law counts once. -/
mutual
def uptoBulk {H : Type} : DataW H → Nat
  | .lit (.string bytes) => bytes.length + 1
  | .lit _ => 1
  | .nil => 1
  | .ptr d => uptoBulk d + 1
  | .slice elems spare => uptoBulkAll elems + uptoBulkAll spare + 1
  | .agg parts => uptoBulkAll parts + 1
  | .iface _ d => uptoBulk d + 1
  | .map entries => uptoBulkEntries entries + 1
  | .held _ => 1
def uptoBulkAll {H : Type} : List (DataW H) → Nat
  | [] => 0
  | d :: r => uptoBulk d + uptoBulkAll r
def uptoBulkEntries {H : Type} : List (Lit × DataW H) → Nat
  | [] => 0
  | x :: r => uptoBulkEntry x + uptoBulkEntries r
def uptoBulkEntry {H : Type} : Lit × DataW H → Nat
  | (.string bytes, d) => bytes.length + uptoBulk d + 1
  | (_, d) => uptoBulk d + 1
 end
def uptoSmall : (H : Type) → List (DataW H) → Bool := fun _ ds => decide (uptoBulkAll ds ≤ 1048576)
def OpenSpec.upto (s : _root_.Go.ChangeSpec) : _root_.Go.OpenSpec := { _root_.Go.OpenSpec.ofChange s with cond := some uptoSmall }

/-- 'lightclientlaw34.BuildWeights', WHERE WHAT IT READS IS OF BULK AT MOST 1048576: true; the input reads as it did. -/
def buildWeightsUptoRow : OpenClaim := { program := "ytanhccemhpmnhaa", sum := "4821b5ccc87a4e4412cf193a902e1897f0fbeb63da1cc469207d5f5aca88343b", func := "lightclient/lightclientlaw34.BuildWeights", spec := "buildWeights", plainKeys := false, apart := false, narrowed := true }
def BuildWeightsUptoSaid : Prop := buildWeightsUptoRow.holds Try.pinned (OpenSpec.upto buildWeightsSpec)

/-- 'lightclientlaw34.BuildValid', WHERE WHAT IT READS IS OF BULK AT MOST 1048576: true; the input reads as it did. -/
def buildValidUptoRow : OpenClaim := { program := "ytanhccemhpmnhaa", sum := "4821b5ccc87a4e4412cf193a902e1897f0fbeb63da1cc469207d5f5aca88343b", func := "lightclient/lightclientlaw34.BuildValid", spec := "buildValid", plainKeys := false, apart := false, narrowed := true }
def BuildValidUptoSaid : Prop := buildValidUptoRow.holds Try.pinned (OpenSpec.upto buildValidSpec)

/-- 'lightclientlaw34.BuildBalances', WHERE WHAT IT READS IS OF BULK AT MOST 1048576: true; the input reads as it did. -/
def buildBalancesUptoRow : OpenClaim := { program := "ytanhccemhpmnhaa", sum := "4821b5ccc87a4e4412cf193a902e1897f0fbeb63da1cc469207d5f5aca88343b", func := "lightclient/lightclientlaw34.BuildBalances", spec := "buildBalances", recurses := true, plainKeys := false, apart := false, narrowed := true }
def BuildBalancesUptoSaid : Prop := buildBalancesUptoRow.holds Try.pinned (OpenSpec.upto buildBalancesSpec)

end Rows
end Go.Proofs.Ytanhccemhpmnhaa
