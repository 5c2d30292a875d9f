import Derived.Test.YtbjhgolpnjokbaaLfV
import Derived.Test.YtbjhgolpnjokbaaAvP3
import Derived.Test.YtbjhgolpnjokbaaLcG2
import Derived.Test.YtbjhgolpnjokbaaLcG4
namespace Go.Proofs.Ytbjhgolpnjokbaa
open Go.RowKit
open Go.Av
open Go.Lc
set_option maxRecDepth 100000
set_option linter.unusedVariables false
set_option linter.unusedSimpArgs false
variable {H : Type} {enc : TypeId × Value → H} {W w : World} {base b0 : Nat} {spare : Nat → Bool} {held : Bool} {r : Reach} {v : Value} {d : DataW H} {ps : List MemPlace}
theorem ty3 {n : Nat} {cs : List Cell} (h : Ys tt (n + 1) 3 cs) : ∃ x : Int, cs = [.v (.int .i64 x)] ∧ (-9223372036854775808 ≤ x ∧ x ≤ 9223372036854775807) := by
  obtain ⟨x, rfl, hx⟩ := Ys.int h tt3 rfl
  exact ⟨x, rfl, ZnY hx⟩
theorem ty22 {n : Nat} {cs : List Cell} (h : Ys tt (n + 2) 22 cs) : ∃ x : (List Int), cs = [.slice .no (Zk .i64 x)] ∧ ZlW x := by
  obtain ⟨L, rfl, h2, h3⟩ := Ys.ints h tt22 rfl tt3 rfl
  exact ⟨L, rfl, h2, fun a ha => ZnY (h3 a ha)⟩
theorem Zo1 (hv : Value.okWide Try.prog W r b0 22 v) (h : DataW.Trod enc Try.prog w base spare held 22 v d ps) : ∃ x : (List Int), Ya (fun b _ => b < w.heap.size) w [.slice .no (Zk .i64 x)] [v] ∧ ZlW x := by
  obtain ⟨cells, h1, h2⟩ := ZoL htt 2 (by kernel_rfl) Try.underlying22 hv h
  obtain ⟨x, rfl, hx⟩ := ty22 (n := 0) h2
  exact ⟨x, h1, hx⟩
theorem run3 {H : Type} {enc : TypeId × Value → H} {W w : World} {base b0 : Nat} {spare : Nat → Bool} {held : Bool} {r : Reach} {v0 : Value} {d0 : DataW H} {p0 : List MemPlace} {v1 : Value} {d1 : DataW H} {p1 : List MemPlace} {v2 : Value} {d2 : DataW H} {p2 : List MemPlace} (hv0 : Value.okWide Try.prog W r b0 22 v0) (hv1 : Value.okWide Try.prog W r b0 22 v1) (hv2 : Value.okWide Try.prog W r b0 22 v2) (h0 : DataW.Trod enc Try.prog w base spare held 22 v0 d0 p0) (h1 : DataW.Trod enc Try.prog w base spare held 22 v1 d1 p1) (h2 : DataW.Trod enc Try.prog w base spare held 22 v2 d2 p2) : Calls Try.prog 3 #[v0, v1, v2] w fun e w' => e = .returned (.bool true) ∧ Below w.heap.size w w' := by
  obtain ⟨x0, r0, o0⟩ := Zo1 hv0 h0
  obtain ⟨x1, r1, o1⟩ := Zo1 hv1 h1
  obtain ⟨x2, r2, o2⟩ := Zo1 hv2 h2
  have hF : G3 [.one (.slice .no (Zk .i64 x0)), .one (.slice .no (Zk .i64 x1)), .one (.slice .no (Zk .i64 x2))] = some (bP true, []) := ZtS (partialPasses x0 x1 x2 o0.1 o1.1 o2.1)
  exact Zsg (v3 (G := fun _ => none)) Zpv (fun _ _ h => h) (Zky r0 (Zky r1 (Zky r2 .nil))) hF
end Go.Proofs.Ytbjhgolpnjokbaa
