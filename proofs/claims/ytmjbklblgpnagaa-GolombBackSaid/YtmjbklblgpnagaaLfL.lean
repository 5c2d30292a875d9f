import Derived.Test.YtmjbklblgpnagaaLfV
import Derived.Test.YtmjbklblgpnagaaAvP3
import Derived.Test.YtmjbklblgpnagaaLcG2
import Derived.Test.YtmjbklblgpnagaaLcG4
namespace Go.Proofs.Ytmjbklblgpnagaa
open Go.RowKit
open Go.Av
open Go.Lc
set_option maxRecDepth 100000
set_option linter.unusedVariables false
set_option linter.unusedSimpArgs false
variable {H : Type} {enc : TypeId × Value → H} {W w : World} {base b0 : Nat} {spare : Nat → Bool} {held : Bool} {r : Reach} {v : Value} {d : DataW H} {ps : List MemPlace}
theorem ty39 {n : Nat} {cs : List Cell} (h : Typed tt (n + 1) 39 cs) : ∃ x : Int, cs = [.v (.int .u16 x)] ∧ (0 ≤ x ∧ x ≤ 65535) := by
  obtain ⟨x, rfl, hx⟩ := Typed.int h tt39 rfl
  exact ⟨x, rfl, wfi_u16 hx⟩
theorem ty46 {n : Nat} {cs : List Cell} (h : Typed tt (n + 2) 46 cs) : ∃ x : (List Int), cs = [.slice .no (intsR .u16 x)] ∧ OeS_I_u16 x := by
  obtain ⟨L, rfl, h2, h3⟩ := Typed.ints h tt46 rfl tt39 rfl
  exact ⟨L, rfl, h2, fun a ha => wfi_u16 (h3 a ha)⟩
theorem arg46 (hv : Value.okWide Try.prog W r b0 46 v) (h : DataW.Trod enc Try.prog w base spare held 46 v d ps) : ∃ x : (List Int), RepL (fun b _ => b < w.heap.size) w [.slice .no (intsR .u16 x)] [v] ∧ OeS_I_u16 x := by
  obtain ⟨cells, h1, h2⟩ := open_slice htt 2 (by kernel_rfl) Try.underlying46 hv h
  obtain ⟨x, rfl, hx⟩ := ty46 (n := 0) h2
  exact ⟨x, h1, hx⟩
theorem ty3 {n : Nat} {cs : List Cell} (h : Typed tt (n + 1) 3 cs) : ∃ x : Int, cs = [.v (.int .i64 x)] ∧ (-9223372036854775808 ≤ x ∧ x ≤ 9223372036854775807) := by
  obtain ⟨x, rfl, hx⟩ := Typed.int h tt3 rfl
  exact ⟨x, rfl, wfi_i64 hx⟩
theorem ty5 {n : Nat} {cs : List Cell} (h : Typed tt (n + 1) 5 cs) : ∃ x : Int, cs = [.v (.int .u8 x)] ∧ (0 ≤ x ∧ x ≤ 255) := by
  obtain ⟨x, rfl, hx⟩ := Typed.int h tt5 rfl
  exact ⟨x, rfl, wfi_u8 hx⟩
theorem ty24 {n : Nat} {cs : List Cell} (h : Typed tt (n + 2) 24 cs) : ∃ x : (List Int), cs = [.slice .no (intsR .u8 x)] ∧ OeS_I_u8 x := by
  obtain ⟨L, rfl, h2, h3⟩ := Typed.ints h tt24 rfl tt5 rfl
  exact ⟨L, rfl, h2, fun a ha => wfi_u8 (h3 a ha)⟩
theorem ty26 {n : Nat} {cs : List Cell} (h : Typed tt (n + 3) 26 cs) : ∃ x : Tapi_Filter, cs = [.v (.int .i64 x.1), .slice .no (intsR .u8 x.2)] ∧ Oeapi_Filter x := by
  obtain ⟨a0, _, rfl, h0, a1, _, rfl, h1, rfl⟩ := Typed.fs h tt26 rfl
  obtain ⟨x0, rfl, o0⟩ := ty3 h0
  obtain ⟨x1, rfl, o1⟩ := ty24 h1
  exact ⟨(x0, x1), by simp, ⟨o0, o1⟩⟩
theorem arg26 (hv : Value.okWide Try.prog W r b0 26 v) (h : DataW.Trod enc Try.prog w base spare held 26 v d ps) : ∃ (x : Tapi_Filter) (cs : Array Value), v = .agg cs ∧ RepL (fun b _ => b < w.heap.size) w ([.v (.int .i64 x.1), .slice .no (intsR .u8 x.2)]) cs.toList ∧ Oeapi_Filter x := by
  obtain ⟨cells, cs, rfl, h1, h2⟩ := open_struct htt 3 (by kernel_rfl) Try.underlying26 hv h
  obtain ⟨x, rfl, hx⟩ := ty26 (n := 0) h2
  exact ⟨x, cs, rfl, h1, hx⟩
theorem arg5 (hv : Value.okWide Try.prog W r b0 5 v) (h : DataW.Trod enc Try.prog w base spare held 5 v d ps) : ∃ x : Int, RepL (fun b _ => b < w.heap.size) w [.v (.int .u8 x)] [v] ∧ (0 ≤ x ∧ x ≤ 255) := by
  obtain ⟨cells, h1, h2⟩ := open_int htt 1 (by kernel_rfl) Try.underlying5 hv h
  obtain ⟨x, rfl, hx⟩ := ty5 (n := 0) h2
  exact ⟨x, h1, hx⟩
theorem run8 {H : Type} {enc : TypeId × Value → H} {W w : World} {base b0 : Nat} {spare : Nat → Bool} {held : Bool} {r : Reach} {v0 : Value} {d0 : DataW H} {p0 : List MemPlace} {v1 : Value} {d1 : DataW H} {p1 : List MemPlace} {v2 : Value} {d2 : DataW H} {p2 : List MemPlace} (hv0 : Value.okWide Try.prog W r b0 46 v0) (hv1 : Value.okWide Try.prog W r b0 26 v1) (hv2 : Value.okWide Try.prog W r b0 5 v2) (h0 : DataW.Trod enc Try.prog w base spare held 46 v0 d0 p0) (h1 : DataW.Trod enc Try.prog w base spare held 26 v1 d1 p1) (h2 : DataW.Trod enc Try.prog w base spare held 5 v2 d2 p2) : Calls Try.prog 8 #[v0, v1, v2] w fun e w' => e = .returned (.bool true) ∧ Below w.heap.size w w' := by
  obtain ⟨x0, r0, o0⟩ := arg46 hv0 h0
  obtain ⟨x1, cs1, rfl, r1, o1⟩ := arg26 hv1 h1
  obtain ⟨x2, r2, o2⟩ := arg5 hv2 h2
  have hF : G8 [.one (.slice .no (intsR .u16 x0)), .agg ([.v (.int .i64 x1.1), .slice .no (intsR .u8 x1.2)]), .one (.v (.int .u8 x2))] = some (bP true, []) := G8_eq (golombBack x0 x1 x2 o0.2 o1.2.2 o2)
  exact law_of (v8 (G := fun _ => none)) glob_none (fun _ _ h => h) (args_one r0 (args_agg r1 (args_one r2 .nil))) hF

end Go.Proofs.Ytmjbklblgpnagaa
