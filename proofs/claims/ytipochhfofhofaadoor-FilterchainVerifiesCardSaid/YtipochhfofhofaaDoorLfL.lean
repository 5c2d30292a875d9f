import Derived.Test.YtipochhfofhofaaDoorLfV
import Derived.Test.YtipochhfofhofaaDoorAvP3
import Derived.Test.YtipochhfofhofaaDoorLcG2
import Derived.Test.YtipochhfofhofaaDoorGl
import Derived.Test.YtipochhfofhofaaDoorLcG3
namespace Go.Proofs.YtipochhfofhofaaDoor
open Go.RowKit
open Go.Av
open Go.Lc
set_option maxRecDepth 100000
set_option linter.unusedVariables false
set_option linter.unusedSimpArgs false
variable {H : Type} {enc : TypeId × Value → H} {W w : World} {base b0 : Nat} {spare : Nat → Bool} {held : Bool} {r : Reach} {v : Value} {d : DataW H} {ps : List MemPlace}
theorem ty26 {n : Nat} {cs : List Cell} (h : Typed tt (n + 2) 26 cs) : ∃ x : (Arr 32), cs = arC .u8 x ∧ OeA32_I_u8 x := by
  obtain ⟨x, rfl, hx⟩ := Typed.arr h tt26 rfl tt5 rfl
  exact ⟨x, rfl, fun a ha => wfi_u8 (hx a ha)⟩
theorem ty22 {n : Nat} {cs : List Cell} (h : Typed tt (n + 3) 22 cs) : ∃ x : (List (Arr 32)), cs = [.slice .no (List.map (arC .u8) x)] ∧ OeS_A32_I_u8 x := by
  obtain ⟨L, rfl, h2, h3⟩ := Typed.row h tt22 rfl (f := (arC .u8)) (R := fun a => OeA32_I_u8 a) fun l hl => by
    obtain ⟨a, rfl, ha⟩ := ty26 hl
    exact ⟨a, by simp, ha⟩
  exact ⟨L, rfl, h2, h3⟩
theorem ty24 {n : Nat} {cs : List Cell} (h : Typed tt (n + 4) 24 cs) : ∃ x : Tapi_FilterChain, cs = [.slice .no (List.map (arC .u8) x.1), .slice .no (List.map (arC .u8) x.2)] ∧ Oeapi_FilterChain x := by
  obtain ⟨a0, _, rfl, h0, a1, _, rfl, h1, rfl⟩ := Typed.fs h tt24 rfl
  obtain ⟨x0, rfl, o0⟩ := ty22 h0
  obtain ⟨x1, rfl, o1⟩ := ty22 h1
  exact ⟨(x0, x1), by simp, ⟨o0, o1⟩⟩
theorem arg24 (hv : Value.okWide Tryd.prog W r b0 24 v) (h : DataW.Trod enc Tryd.prog w base spare held 24 v d ps) : ∃ (x : Tapi_FilterChain) (cs : Array Value), v = .agg cs ∧ RepL (fun b _ => b < w.heap.size) w ([.slice .no (List.map (arC .u8) x.1), .slice .no (List.map (arC .u8) x.2)]) cs.toList ∧ Oeapi_FilterChain x := by
  obtain ⟨cells, cs, rfl, h1, h2⟩ := open_struct htt 4 (by kernel_rfl) Tryd.underlying24 hv h
  obtain ⟨x, rfl, hx⟩ := ty24 (n := 0) h2
  exact ⟨x, cs, rfl, h1, hx⟩
theorem ty3 {n : Nat} {cs : List Cell} (h : Typed tt (n + 1) 3 cs) : ∃ x : Int, cs = [.v (.int .i64 x)] ∧ (-9223372036854775808 ≤ x ∧ x ≤ 9223372036854775807) := by
  obtain ⟨x, rfl, hx⟩ := Typed.int h tt3 rfl
  exact ⟨x, rfl, wfi_i64 hx⟩
theorem arg3 (hv : Value.okWide Tryd.prog W r b0 3 v) (h : DataW.Trod enc Tryd.prog w base spare held 3 v d ps) : ∃ x : Int, RepL (fun b _ => b < w.heap.size) w [.v (.int .i64 x)] [v] ∧ (-9223372036854775808 ≤ x ∧ x ≤ 9223372036854775807) := by
  obtain ⟨cells, h1, h2⟩ := open_int htt 1 (by kernel_rfl) Tryd.underlying3 hv h
  obtain ⟨x, rfl, hx⟩ := ty3 (n := 0) h2
  exact ⟨x, h1, hx⟩
theorem ty5 {n : Nat} {cs : List Cell} (h : Typed tt (n + 1) 5 cs) : ∃ x : Int, cs = [.v (.int .u8 x)] ∧ (0 ≤ x ∧ x ≤ 255) := by
  obtain ⟨x, rfl, hx⟩ := Typed.int h tt5 rfl
  exact ⟨x, rfl, wfi_u8 hx⟩
theorem ty43 {n : Nat} {cs : List Cell} (h : Typed tt (n + 2) 43 cs) : ∃ x : (List Int), cs = [.slice .no (intsR .u8 x)] ∧ OeS_I_u8 x := by
  obtain ⟨L, rfl, h2, h3⟩ := Typed.ints h tt43 rfl tt5 rfl
  exact ⟨L, rfl, h2, fun a ha => wfi_u8 (h3 a ha)⟩
theorem ty45 {n : Nat} {cs : List Cell} (h : Typed tt (n + 3) 45 cs) : ∃ x : Tapi_Filter, cs = [.v (.int .i64 x.1), .slice .no (intsR .u8 x.2)] ∧ Oeapi_Filter x := by
  obtain ⟨a0, _, rfl, h0, a1, _, rfl, h1, rfl⟩ := Typed.fs h tt45 rfl
  obtain ⟨x0, rfl, o0⟩ := ty3 h0
  obtain ⟨x1, rfl, o1⟩ := ty43 h1
  exact ⟨(x0, x1), by simp, ⟨o0, o1⟩⟩
theorem arg45 (hv : Value.okWide Tryd.prog W r b0 45 v) (h : DataW.Trod enc Tryd.prog w base spare held 45 v d ps) : ∃ (x : Tapi_Filter) (cs : Array Value), v = .agg cs ∧ RepL (fun b _ => b < w.heap.size) w ([.v (.int .i64 x.1), .slice .no (intsR .u8 x.2)]) cs.toList ∧ Oeapi_Filter x := by
  obtain ⟨cells, cs, rfl, h1, h2⟩ := open_struct htt 3 (by kernel_rfl) Tryd.underlying45 hv h
  obtain ⟨x, rfl, hx⟩ := ty45 (n := 0) h2
  exact ⟨x, cs, rfl, h1, hx⟩
theorem run7 {H : Type} {enc : TypeId × Value → H} {W w : World} {base b0 : Nat} {spare : Nat → Bool} {held : Bool} {r : Reach} {v0 : Value} {d0 : DataW H} {p0 : List MemPlace} {v1 : Value} {d1 : DataW H} {p1 : List MemPlace} {v2 : Value} {d2 : DataW H} {p2 : List MemPlace} (hL : laidMetH Tryd.prog laid2 w) (hv0 : Value.okWide Tryd.prog W r b0 24 v0) (hv1 : Value.okWide Tryd.prog W r b0 3 v1) (hv2 : Value.okWide Tryd.prog W r b0 45 v2) (h0 : DataW.Trod enc Tryd.prog w base spare held 24 v0 d0 p0) (h1 : DataW.Trod enc Tryd.prog w base spare held 3 v1 d1 p1) (h2 : DataW.Trod enc Tryd.prog w base spare held 45 v2 d2 p2) : Calls Tryd.prog 7 #[v0, v1, v2] w fun e w' => e = .returned (.bool true) ∧ Below w.heap.size w w' := by
  obtain ⟨x0, cs0, rfl, r0, o0⟩ := arg24 hv0 h0
  obtain ⟨x1, r1, o1⟩ := arg3 hv1 h1
  obtain ⟨x2, cs2, rfl, r2, o2⟩ := arg45 hv2 h2
  have hF : G7 [.agg ([.slice .no (List.map (arC .u8) x0.1), .slice .no (List.map (arC .u8) x0.2)]), .one (.v (.int .i64 x1)), .agg ([.v (.int .i64 x2.1), .slice .no (intsR .u8 x2.2)])] = some (bP true, []) := G7_eq (filterchainVerifies x0 x1 x2)
  exact law_of v7 (glob_laid hL) (fun _ _ h => h) (args_agg r0 (args_one r1 (args_agg r2 .nil))) hF

end Go.Proofs.YtipochhfofhofaaDoor
