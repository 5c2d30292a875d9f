/-
  No cell of these rows narrows 'for every input' (looked for: loops, veiled, ifaces, maps, wideKeys, modest, calm, conditions, laid).
  DERIVED. THE GIVEN ROWS OF THIS SEAT. 4 by the template 'for every input the law returns true; each argument reads behind the call as it read before'; 0 by the template 'total and deterministic' (their statements: YtlfnplkjbejekaaTotals.lean).
  GIVEN WITH THE SEED: the statements are not yours to turn. If you find one false, say at which input.
  Laid BY PROGRAM, IN A SANDBOX (cutbox-rows.mjs): the forced cells as the released guide's own fill.sh prints them over the translation 0e5e573e5bc2a44f… (all of the seat's roots in one cut). By AI agents, Wed Nov 11 2026. No macro, syntax, notation, axiom, sorry.
-/
import Derived.Test.YtlfnplkjbejekaaChecked
import GoSem.Claim
import GoSem.ClaimJoined
import GoSem.ClaimMapViews
import Derived.JoinedTies
import Derived.KernelRfl
namespace Go.Proofs.Ytlfnplkjbejekaa
/- THE CELL 'sum', in the pinned program and in every row, IS THE sha256 OF THE DUMP (.gsa) THAT YtlfnplkjbejekaaProg.lean LOADS. Nothing in Lean hashes anything: it is a label: what it is worth is what the hold of that sum in a sandbox is worth. -/
noncomputable def Try.pinned : Pinned := { name := "ytlfnplkjbejekaa", sum := "0e5e573e5bc2a44fc1f4fda8685ffadf83537035515aed747dae1a9281f6e26e", checked := Try.checked }
namespace Rows
def none {H : Type} : Left H := { results := [], args := [] }

/-- 'lightclientlaw22.DisputeBegins': WHATEVER THE INPUT: true; the input reads as it did. -/
def disputeBeginsSpec : ChangeSpec := { name := "disputeBegins", fn := fun _ => fun
  | [d1, d2, d3, d4, d5] => { results := [.lit (.bool true)], args := [d1, d2, d3, d4, d5] }
  | _ => none }
def disputeBeginsRow : OpenClaim := { program := "ytlfnplkjbejekaa", sum := "0e5e573e5bc2a44fc1f4fda8685ffadf83537035515aed747dae1a9281f6e26e", func := "lightclient/lightclientlaw22.DisputeBegins", spec := "disputeBegins", apart := false }
def DisputeBeginsSaid : Prop := disputeBeginsRow.holds Try.pinned (OpenSpec.ofChange disputeBeginsSpec)

/-- ITS FALSE NEIGHBOUR: 'it returns false'. Refute it at one input. -/
def disputeBeginsWrong : ChangeSpec := { name := "disputeBegins", fn := fun _ => fun
  | [d1, d2, d3, d4, d5] => { results := [.lit (.bool false)], args := [d1, d2, d3, d4, d5] }
  | _ => none }
def DisputeBeginsWrongFalsely : Prop := disputeBeginsRow.holds Try.pinned (OpenSpec.ofChange disputeBeginsWrong)

/-- 'lightclientlaw22.DisputeAnswers': WHATEVER THE INPUT: true; the input reads as it did. -/
def disputeAnswersSpec : ChangeSpec := { name := "disputeAnswers", fn := fun _ => fun
  | [d1, d2] => { results := [.lit (.bool true)], args := [d1, d2] }
  | _ => none }
def disputeAnswersRow : OpenClaim := { program := "ytlfnplkjbejekaa", sum := "0e5e573e5bc2a44fc1f4fda8685ffadf83537035515aed747dae1a9281f6e26e", func := "lightclient/lightclientlaw22.DisputeAnswers", spec := "disputeAnswers", apart := false }
def DisputeAnswersSaid : Prop := disputeAnswersRow.holds Try.pinned (OpenSpec.ofChange disputeAnswersSpec)

/-- ITS FALSE NEIGHBOUR: 'it returns false'. Refute it at one input. -/
def disputeAnswersWrong : ChangeSpec := { name := "disputeAnswers", fn := fun _ => fun
  | [d1, d2] => { results := [.lit (.bool false)], args := [d1, d2] }
  | _ => none }
def DisputeAnswersWrongFalsely : Prop := disputeAnswersRow.holds Try.pinned (OpenSpec.ofChange disputeAnswersWrong)

/-- 'lightclientlaw22.DisputeNarrows': WHATEVER THE INPUT: true; the input reads as it did. -/
def disputeNarrowsSpec : ChangeSpec := { name := "disputeNarrows", fn := fun _ => fun
  | [d1, d2] => { results := [.lit (.bool true)], args := [d1, d2] }
  | _ => none }
def disputeNarrowsRow : OpenClaim := { program := "ytlfnplkjbejekaa", sum := "0e5e573e5bc2a44fc1f4fda8685ffadf83537035515aed747dae1a9281f6e26e", func := "lightclient/lightclientlaw22.DisputeNarrows", spec := "disputeNarrows", apart := false }
def DisputeNarrowsSaid : Prop := disputeNarrowsRow.holds Try.pinned (OpenSpec.ofChange disputeNarrowsSpec)

/-- ITS FALSE NEIGHBOUR: 'it returns false'. Refute it at one input. -/
def disputeNarrowsWrong : ChangeSpec := { name := "disputeNarrows", fn := fun _ => fun
  | [d1, d2] => { results := [.lit (.bool false)], args := [d1, d2] }
  | _ => none }
def DisputeNarrowsWrongFalsely : Prop := disputeNarrowsRow.holds Try.pinned (OpenSpec.ofChange disputeNarrowsWrong)

/-- 'lightclientlaw22.DisputeSettles': WHATEVER THE INPUT: true; the input reads as it did. -/
def disputeSettlesSpec : ChangeSpec := { name := "disputeSettles", fn := fun _ => fun
  | [d1, d2, d3] => { results := [.lit (.bool true)], args := [d1, d2, d3] }
  | _ => none }
def disputeSettlesRow : OpenClaim := { program := "ytlfnplkjbejekaa", sum := "0e5e573e5bc2a44fc1f4fda8685ffadf83537035515aed747dae1a9281f6e26e", func := "lightclient/lightclientlaw22.DisputeSettles", spec := "disputeSettles", apart := false }
def DisputeSettlesSaid : Prop := disputeSettlesRow.holds Try.pinned (OpenSpec.ofChange disputeSettlesSpec)

/-- ITS FALSE NEIGHBOUR: 'it returns false'. Refute it at one input. -/
def disputeSettlesWrong : ChangeSpec := { name := "disputeSettles", fn := fun _ => fun
  | [d1, d2, d3] => { results := [.lit (.bool false)], args := [d1, d2, d3] }
  | _ => none }
def DisputeSettlesWrongFalsely : Prop := disputeSettlesRow.holds Try.pinned (OpenSpec.ofChange disputeSettlesWrong)

/- THE SECOND FORM. 'bulk': how many values and letters a reading holds, each counted each time it is reached (what is shared counts as often as it is met; a slice's spare places count too). A statement '..UptoSaid' is the law's where the arguments, and the package variables that the reading takes, are together of bulk at most 1048576: NARROWER than '..Said'. Prove '..Said' where nothing that the law and all that it calls make is longer than what came in: it says more and counts as full. Else prove '..UptoSaid'. A law counts once. -/
mutual
def uptoBulk {H : Type} : DataW H → Nat
  | .lit (.string bytes) => bytes.length + 1
  | .lit _ => 1
  | .nil => 1
  | .ptr d => uptoBulk d + 1
  | .slice elems spare => uptoBulkAll elems + uptoBulkAll spare + 1
  | .agg parts => uptoBulkAll parts + 1
  | .iface _ d => uptoBulk d + 1
  | .map entries => uptoBulkEntries entries + 1
  | .held _ => 1
def uptoBulkAll {H : Type} : List (DataW H) → Nat
  | [] => 0
  | d :: r => uptoBulk d + uptoBulkAll r
def uptoBulkEntries {H : Type} : List (Lit × DataW H) → Nat
  | [] => 0
  | x :: r => uptoBulkEntry x + uptoBulkEntries r
def uptoBulkEntry {H : Type} : Lit × DataW H → Nat
  | (.string bytes, d) => bytes.length + uptoBulk d + 1
  | (_, d) => uptoBulk d + 1
 end
def uptoSmall : (H : Type) → List (DataW H) → Bool := fun _ ds => decide (uptoBulkAll ds ≤ 1048576)
def OpenSpec.upto (s : _root_.Go.ChangeSpec) : _root_.Go.OpenSpec := { _root_.Go.OpenSpec.ofChange s with cond := some uptoSmall }

/-- 'lightclientlaw22.DisputeBegins', WHERE WHAT IT READS IS OF BULK AT MOST 1048576: true; the input reads as it did. -/
def disputeBeginsUptoRow : OpenClaim := { program := "ytlfnplkjbejekaa", sum := "0e5e573e5bc2a44fc1f4fda8685ffadf83537035515aed747dae1a9281f6e26e", func := "lightclient/lightclientlaw22.DisputeBegins", spec := "disputeBegins", apart := false, narrowed := true }
def DisputeBeginsUptoSaid : Prop := disputeBeginsUptoRow.holds Try.pinned (OpenSpec.upto disputeBeginsSpec)

/-- 'lightclientlaw22.DisputeAnswers', WHERE WHAT IT READS IS OF BULK AT MOST 1048576: true; the input reads as it did. -/
def disputeAnswersUptoRow : OpenClaim := { program := "ytlfnplkjbejekaa", sum := "0e5e573e5bc2a44fc1f4fda8685ffadf83537035515aed747dae1a9281f6e26e", func := "lightclient/lightclientlaw22.DisputeAnswers", spec := "disputeAnswers", apart := false, narrowed := true }
def DisputeAnswersUptoSaid : Prop := disputeAnswersUptoRow.holds Try.pinned (OpenSpec.upto disputeAnswersSpec)

/-- 'lightclientlaw22.DisputeNarrows', WHERE WHAT IT READS IS OF BULK AT MOST 1048576: true; the input reads as it did. -/
def disputeNarrowsUptoRow : OpenClaim := { program := "ytlfnplkjbejekaa", sum := "0e5e573e5bc2a44fc1f4fda8685ffadf83537035515aed747dae1a9281f6e26e", func := "lightclient/lightclientlaw22.DisputeNarrows", spec := "disputeNarrows", apart := false, narrowed := true }
def DisputeNarrowsUptoSaid : Prop := disputeNarrowsUptoRow.holds Try.pinned (OpenSpec.upto disputeNarrowsSpec)

/-- 'lightclientlaw22.DisputeSettles', WHERE WHAT IT READS IS OF BULK AT MOST 1048576: true; the input reads as it did. -/
def disputeSettlesUptoRow : OpenClaim := { program := "ytlfnplkjbejekaa", sum := "0e5e573e5bc2a44fc1f4fda8685ffadf83537035515aed747dae1a9281f6e26e", func := "lightclient/lightclientlaw22.DisputeSettles", spec := "disputeSettles", apart := false, narrowed := true }
def DisputeSettlesUptoSaid : Prop := disputeSettlesUptoRow.holds Try.pinned (OpenSpec.upto disputeSettlesSpec)

end Rows
end Go.Proofs.Ytlfnplkjbejekaa
