/-
  No cell of these rows narrows 'for every input' (looked for: loops, veiled, ifaces, maps, wideKeys, modest, calm, conditions, laid).
  DERIVED. THE GIVEN ROWS OF THIS SEAT. 2 by the template 'for every input the law returns true; each argument reads behind the call as it read before'; 0 by the template 'total and deterministic' (their statements: YtbjhgolpnjokbaaGreatTotals.lean).
  GIVEN WITH THE SEED: the statements are not yours to turn. If you find one false, say at which input.
  Laid BY PROGRAM, IN A SANDBOX (cutbox-rows.mjs): the forced cells as the released guide's own fill.sh prints them over the translation 4da392c9cfc19732… (all of the seat's roots in one cut). By AI agents, Wed Nov 11 2026. No macro, syntax, notation, axiom, sorry.
-/
import Derived.Test.YtbjhgolpnjokbaaGreatChecked
import GoSem.Claim
import GoSem.ClaimJoined
import GoSem.ClaimMapViews
import Derived.JoinedTies
import Derived.KernelRfl
namespace Go.Proofs.YtbjhgolpnjokbaaGreat
/- THE CELL 'sum', in the pinned program and in every row, IS THE sha256 OF THE DUMP (.gsa) THAT YtbjhgolpnjokbaaGreatProg.lean LOADS. Nothing in Lean hashes anything: it is a label: what it is worth is what the hold of that sum in a sandbox is worth. -/
noncomputable def Tryz.pinned : Pinned := { name := "ytbjhgolpnjokbaagreat", sum := "4da392c9cfc19732bd979325d9fa8d5adf9afbb2046df74d4e162517605e99c7", checked := Tryz.checked }
namespace Rows
def none {H : Type} : Left H := { results := [], args := [] }

/-- 'lightclientlaw35.PartialValid': WHATEVER THE INPUT: true; the input reads as it did. -/
def partialValidSpec : ChangeSpec := { name := "partialValid", fn := fun _ => fun
  | [d1, d2, d3] => { results := [.lit (.bool true)], args := [d1, d2, d3] }
  | _ => none }
def partialValidRow : OpenClaim := { program := "ytbjhgolpnjokbaagreat", sum := "4da392c9cfc19732bd979325d9fa8d5adf9afbb2046df74d4e162517605e99c7", func := "lightclient/lightclientlaw35.PartialValid", spec := "partialValid", inPlace := ["math/bits.Sub64"], plainKeys := false, apart := false }
def PartialValidSaid : Prop := partialValidRow.holds Tryz.pinned (OpenSpec.ofChange partialValidSpec)

/-- ITS FALSE NEIGHBOUR: 'it returns false'. Refute it at one input. -/
def partialValidWrong : ChangeSpec := { name := "partialValid", fn := fun _ => fun
  | [d1, d2, d3] => { results := [.lit (.bool false)], args := [d1, d2, d3] }
  | _ => none }
def PartialValidWrongFalsely : Prop := partialValidRow.holds Tryz.pinned (OpenSpec.ofChange partialValidWrong)

/-- 'lightclientlaw35.PartialMerges': WHATEVER THE INPUT: true; the input reads as it did. -/
def partialMergesSpec : ChangeSpec := { name := "partialMerges", fn := fun _ => fun
  | [d1, d2, d3, d4] => { results := [.lit (.bool true)], args := [d1, d2, d3, d4] }
  | _ => none }
def partialMergesRow : OpenClaim := { program := "ytbjhgolpnjokbaagreat", sum := "4da392c9cfc19732bd979325d9fa8d5adf9afbb2046df74d4e162517605e99c7", func := "lightclient/lightclientlaw35.PartialMerges", spec := "partialMerges", inPlace := ["math/bits.Sub64"], unfollowed := true, recurses := true, plainKeys := false, apart := false }
def PartialMergesSaid : Prop := partialMergesRow.holds Tryz.pinned (OpenSpec.ofChange partialMergesSpec)

/-- ITS FALSE NEIGHBOUR: 'it returns false'. Refute it at one input. -/
def partialMergesWrong : ChangeSpec := { name := "partialMerges", fn := fun _ => fun
  | [d1, d2, d3, d4] => { results := [.lit (.bool false)], args := [d1, d2, d3, d4] }
  | _ => none }
def PartialMergesWrongFalsely : Prop := partialMergesRow.holds Tryz.pinned (OpenSpec.ofChange partialMergesWrong)

/- THE SECOND FORM. 'bulk': how many values and letters a reading holds, each counted each time it is reached (what is shared counts as often as it is met; a slice's spare places count too). A statement '..UptoSaid' is the law's where the arguments, and the package variables that the reading takes, are together of bulk at most 1048576: NARROWER than '..Said'. Prove '..Said' where nothing that the law and all that it calls make is longer than what came in: it says more and counts as full. Else prove '..UptoSaid'. A law counts once. -/
mutual
def uptoBulk {H : Type} : DataW H → Nat
  | .lit (.string bytes) => bytes.length + 1
  | .lit _ => 1
  | .nil => 1
  | .ptr d => uptoBulk d + 1
  | .slice elems spare => uptoBulkAll elems + uptoBulkAll spare + 1
  | .agg parts => uptoBulkAll parts + 1
  | .iface _ d => uptoBulk d + 1
  | .map entries => uptoBulkEntries entries + 1
  | .held _ => 1
def uptoBulkAll {H : Type} : List (DataW H) → Nat
  | [] => 0
  | d :: r => uptoBulk d + uptoBulkAll r
def uptoBulkEntries {H : Type} : List (Lit × DataW H) → Nat
  | [] => 0
  | x :: r => uptoBulkEntry x + uptoBulkEntries r
def uptoBulkEntry {H : Type} : Lit × DataW H → Nat
  | (.string bytes, d) => bytes.length + uptoBulk d + 1
  | (_, d) => uptoBulk d + 1
 end
def uptoSmall : (H : Type) → List (DataW H) → Bool := fun _ ds => decide (uptoBulkAll ds ≤ 1048576)
def OpenSpec.upto (s : _root_.Go.ChangeSpec) : _root_.Go.OpenSpec := { _root_.Go.OpenSpec.ofChange s with cond := some uptoSmall }

/-- 'lightclientlaw35.PartialValid', WHERE WHAT IT READS IS OF BULK AT MOST 1048576: true; the input reads as it did. -/
def partialValidUptoRow : OpenClaim := { program := "ytbjhgolpnjokbaagreat", sum := "4da392c9cfc19732bd979325d9fa8d5adf9afbb2046df74d4e162517605e99c7", func := "lightclient/lightclientlaw35.PartialValid", spec := "partialValid", inPlace := ["math/bits.Sub64"], plainKeys := false, apart := false, narrowed := true }
def PartialValidUptoSaid : Prop := partialValidUptoRow.holds Tryz.pinned (OpenSpec.upto partialValidSpec)

/-- 'lightclientlaw35.PartialMerges', WHERE WHAT IT READS IS OF BULK AT MOST 1048576: true; the input reads as it did. -/
def partialMergesUptoRow : OpenClaim := { program := "ytbjhgolpnjokbaagreat", sum := "4da392c9cfc19732bd979325d9fa8d5adf9afbb2046df74d4e162517605e99c7", func := "lightclient/lightclientlaw35.PartialMerges", spec := "partialMerges", inPlace := ["math/bits.Sub64"], unfollowed := true, recurses := true, plainKeys := false, apart := false, narrowed := true }
def PartialMergesUptoSaid : Prop := partialMergesUptoRow.holds Tryz.pinned (OpenSpec.upto partialMergesSpec)

end Rows
end Go.Proofs.YtbjhgolpnjokbaaGreat
