import Derived.Test.YtmjbklblgpnagaaLfV
import Derived.Test.YtmjbklblgpnagaaAvP3
import Derived.Test.YtmjbklblgpnagaaLcG2
import Derived.Test.YtmjbklblgpnagaaLcG4
namespace Go.Proofs.Ytmjbklblgpnagaa
open Go.RowKit
open Go.Av
open Go.Lc
set_option maxRecDepth 100000
set_option linter.unusedVariables false
set_option linter.unusedSimpArgs false
variable {H : Type} {enc : TypeId × Value → H} {W w : World} {base b0 : Nat} {spare : Nat → Bool} {held : Bool} {r : Reach} {v : Value} {d : DataW H} {ps : List MemPlace}
theorem ty34 {n : Nat} {cs : List Cell} (h : Typed tt (n + 2) 34 cs) : ∃ x : (Arr 2), cs = arC .u64 x ∧ OeA2_I_u64 x := by
  obtain ⟨x, rfl, hx⟩ := Typed.arr h tt34 rfl tt32 rfl
  exact ⟨x, rfl, fun a ha => wfi_u64 (hx a ha)⟩
theorem arg34 (hv : Value.okWide Try.prog W r b0 34 v) (h : DataW.Trod enc Try.prog w base spare held 34 v d ps) : ∃ (x : (Arr 2)) (cs : Array Value), v = .agg cs ∧ RepL (fun b _ => b < w.heap.size) w (arC .u64 x) cs.toList ∧ OeA2_I_u64 x := by
  obtain ⟨cells, cs, rfl, h1, h2⟩ := open_array htt 2 (by kernel_rfl) Try.underlying34 hv h
  obtain ⟨x, rfl, hx⟩ := ty34 (n := 0) h2
  exact ⟨x, cs, rfl, h1, hx⟩
theorem ty5 {n : Nat} {cs : List Cell} (h : Typed tt (n + 1) 5 cs) : ∃ x : Int, cs = [.v (.int .u8 x)] ∧ (0 ≤ x ∧ x ≤ 255) := by
  obtain ⟨x, rfl, hx⟩ := Typed.int h tt5 rfl
  exact ⟨x, rfl, wfi_u8 hx⟩
theorem ty24 {n : Nat} {cs : List Cell} (h : Typed tt (n + 2) 24 cs) : ∃ x : (List Int), cs = [.slice .no (intsR .u8 x)] ∧ OeS_I_u8 x := by
  obtain ⟨L, rfl, h2, h3⟩ := Typed.ints h tt24 rfl tt5 rfl
  exact ⟨L, rfl, h2, fun a ha => wfi_u8 (h3 a ha)⟩
theorem ty35 {n : Nat} {cs : List Cell} (h : Typed tt (n + 3) 35 cs) : ∃ x : (List (List Int)), cs = [.slice .no (List.map eS_I_u8 x)] ∧ OeS_S_I_u8 x := by
  obtain ⟨L, rfl, h2, h3⟩ := Typed.row h tt35 rfl (f := eS_I_u8) (R := fun a => OeS_I_u8 a) fun l hl => by
    obtain ⟨a, rfl, ha⟩ := ty24 hl
    exact ⟨a, by simp, ha⟩
  exact ⟨L, rfl, h2, h3⟩
theorem arg35 (hv : Value.okWide Try.prog W r b0 35 v) (h : DataW.Trod enc Try.prog w base spare held 35 v d ps) : ∃ x : (List (List Int)), RepL (fun b _ => b < w.heap.size) w [.slice .no (List.map eS_I_u8 x)] [v] ∧ OeS_S_I_u8 x := by
  obtain ⟨cells, h1, h2⟩ := open_slice htt 3 (by kernel_rfl) Try.underlying35 hv h
  obtain ⟨x, rfl, hx⟩ := ty35 (n := 0) h2
  exact ⟨x, h1, hx⟩
theorem arg5 (hv : Value.okWide Try.prog W r b0 5 v) (h : DataW.Trod enc Try.prog w base spare held 5 v d ps) : ∃ x : Int, RepL (fun b _ => b < w.heap.size) w [.v (.int .u8 x)] [v] ∧ (0 ≤ x ∧ x ≤ 255) := by
  obtain ⟨cells, h1, h2⟩ := open_int htt 1 (by kernel_rfl) Try.underlying5 hv h
  obtain ⟨x, rfl, hx⟩ := ty5 (n := 0) h2
  exact ⟨x, h1, hx⟩
theorem ty39 {n : Nat} {cs : List Cell} (h : Typed tt (n + 1) 39 cs) : ∃ x : Int, cs = [.v (.int .u16 x)] ∧ (0 ≤ x ∧ x ≤ 65535) := by
  obtain ⟨x, rfl, hx⟩ := Typed.int h tt39 rfl
  exact ⟨x, rfl, wfi_u16 hx⟩
theorem arg39 (hv : Value.okWide Try.prog W r b0 39 v) (h : DataW.Trod enc Try.prog w base spare held 39 v d ps) : ∃ x : Int, RepL (fun b _ => b < w.heap.size) w [.v (.int .u16 x)] [v] ∧ (0 ≤ x ∧ x ≤ 65535) := by
  obtain ⟨cells, h1, h2⟩ := open_int htt 1 (by kernel_rfl) Try.underlying39 hv h
  obtain ⟨x, rfl, hx⟩ := ty39 (n := 0) h2
  exact ⟨x, h1, hx⟩
theorem run11 {H : Type} {enc : TypeId × Value → H} {W w : World} {base b0 : Nat} {spare : Nat → Bool} {held : Bool} {r : Reach} {v0 : Value} {d0 : DataW H} {p0 : List MemPlace} {v1 : Value} {d1 : DataW H} {p1 : List MemPlace} {v2 : Value} {d2 : DataW H} {p2 : List MemPlace} {v3 : Value} {d3 : DataW H} {p3 : List MemPlace} {v4 : Value} {d4 : DataW H} {p4 : List MemPlace} (hv0 : Value.okWide Try.prog W r b0 34 v0) (hv1 : Value.okWide Try.prog W r b0 35 v1) (hv2 : Value.okWide Try.prog W r b0 35 v2) (hv3 : Value.okWide Try.prog W r b0 5 v3) (hv4 : Value.okWide Try.prog W r b0 39 v4) (h0 : DataW.Trod enc Try.prog w base spare held 34 v0 d0 p0) (h1 : DataW.Trod enc Try.prog w base spare held 35 v1 d1 p1) (h2 : DataW.Trod enc Try.prog w base spare held 35 v2 d2 p2) (h3 : DataW.Trod enc Try.prog w base spare held 5 v3 d3 p3) (h4 : DataW.Trod enc Try.prog w base spare held 39 v4 d4 p4) : Calls Try.prog 11 #[v0, v1, v2, v3, v4] w fun e w' => e = .returned (.bool true) ∧ Below w.heap.size w w' := by
  obtain ⟨x0, cs0, rfl, r0, o0⟩ := arg34 hv0 h0
  obtain ⟨x1, r1, o1⟩ := arg35 hv1 h1
  obtain ⟨x2, r2, o2⟩ := arg35 hv2 h2
  obtain ⟨x3, r3, o3⟩ := arg5 hv3 h3
  obtain ⟨x4, r4, o4⟩ := arg39 hv4 h4
  have hF : G11 [.agg (arC .u64 x0), .one (.slice .no (List.map eS_I_u8 x1)), .one (.slice .no (List.map eS_I_u8 x2)), .one (.v (.int .u8 x3)), .one (.v (.int .u16 x4))] = some (bP true, []) := G11_eq (golombAny x0 x1 x2 x3 x4 o1 o2 o3 o4)
  exact law_of (v11 (G := fun _ => none)) glob_none (fun _ _ h => h) (args_agg r0 (args_one r1 (args_one r2 (args_one r3 (args_one r4 .nil))))) hF

end Go.Proofs.Ytmjbklblgpnagaa
