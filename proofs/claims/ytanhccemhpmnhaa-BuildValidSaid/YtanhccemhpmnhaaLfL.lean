import Derived.Test.YtanhccemhpmnhaaLfV
import Derived.Test.YtanhccemhpmnhaaAvP3
import Derived.Test.YtanhccemhpmnhaaLcQ1
import Derived.Test.YtanhccemhpmnhaaLcQ1
import Derived.Test.YtanhccemhpmnhaaLcQ1
namespace Go.Proofs.Ytanhccemhpmnhaa
open Go.RowKit
open Go.Av
open Go.Lc
set_option maxRecDepth 100000
set_option linter.unusedVariables false
set_option linter.unusedSimpArgs false
variable {H : Type} {enc : TypeId × Value → H} {W w : World} {base b0 : Nat} {spare : Nat → Bool} {held : Bool} {r : Reach} {v : Value} {d : DataW H} {ps : List MemPlace}
theorem ty3 {n : Nat} {cs : List Cell} (h : Typed tt (n + 1) 3 cs) : ∃ x : Int, cs = [.v (.int .i64 x)] ∧ (-9223372036854775808 ≤ x ∧ x ≤ 9223372036854775807) := by
  obtain ⟨x, rfl, hx⟩ := Typed.int h tt3 rfl
  exact ⟨x, rfl, wfi_i64 hx⟩
theorem arg3 (hv : Value.okWide Try.prog W r b0 3 v) (h : DataW.Trod enc Try.prog w base spare held 3 v d ps) : ∃ x : Int, RepL (fun b _ => b < w.heap.size) w [.v (.int .i64 x)] [v] ∧ (-9223372036854775808 ≤ x ∧ x ≤ 9223372036854775807) := by
  obtain ⟨cells, h1, h2⟩ := open_int htt 1 (by kernel_rfl) Try.underlying3 hv h
  obtain ⟨x, rfl, hx⟩ := ty3 (n := 0) h2
  exact ⟨x, h1, hx⟩
theorem ty22 {n : Nat} {cs : List Cell} (h : Typed tt (n + 2) 22 cs) : ∃ x : (List Int), cs = [.slice .no (intsR .i64 x)] ∧ OeS_I_i64 x := by
  obtain ⟨L, rfl, h2, h3⟩ := Typed.ints h tt22 rfl tt3 rfl
  exact ⟨L, rfl, h2, fun a ha => wfi_i64 (h3 a ha)⟩
theorem arg22 (hv : Value.okWide Try.prog W r b0 22 v) (h : DataW.Trod enc Try.prog w base spare held 22 v d ps) : ∃ x : (List Int), RepL (fun b _ => b < w.heap.size) w [.slice .no (intsR .i64 x)] [v] ∧ OeS_I_i64 x := by
  obtain ⟨cells, h1, h2⟩ := open_slice htt 2 (by kernel_rfl) Try.underlying22 hv h
  obtain ⟨x, rfl, hx⟩ := ty22 (n := 0) h2
  exact ⟨x, h1, hx⟩
theorem ty24 {n : Nat} {cs : List Cell} (h : Typed tt (n + 2) 24 cs) : ∃ x : (Arr 32), cs = arC .u8 x ∧ OeA32_I_u8 x := by
  obtain ⟨x, rfl, hx⟩ := Typed.arr h tt24 rfl tt5 rfl
  exact ⟨x, rfl, fun a ha => wfi_u8 (hx a ha)⟩
theorem ty25 {n : Nat} {cs : List Cell} (h : Typed tt (n + 1) 25 cs) : ∃ x : Int, cs = [.v (.int .u32 x)] ∧ (0 ≤ x ∧ x ≤ 4294967295) := by
  obtain ⟨x, rfl, hx⟩ := Typed.int h tt25 rfl
  exact ⟨x, rfl, wfi_u32 hx⟩
theorem ty27 {n : Nat} {cs : List Cell} (h : Typed tt (n + 3) 27 cs) : ∃ x : Tapi_OutPoint, cs = (arC .u8 x.1) ++ ((.v (.int .u32 x.2)) :: []) ∧ Oeapi_OutPoint x := by
  obtain ⟨a0, _, rfl, h0, a1, _, rfl, h1, rfl⟩ := Typed.fs h tt27 rfl
  obtain ⟨x0, rfl, o0⟩ := ty24 h0
  obtain ⟨x1, rfl, o1⟩ := ty25 h1
  exact ⟨(x0, x1), by simp, ⟨o0, o1⟩⟩
theorem ty2 {n : Nat} {cs : List Cell} (h : Typed tt (n + 1) 2 cs) : ∃ x : Int, cs = [.v (.int .i64 x)] ∧ (-9223372036854775808 ≤ x ∧ x ≤ 9223372036854775807) := by
  obtain ⟨x, rfl, hx⟩ := Typed.int h tt2 rfl
  exact ⟨x, rfl, wfi_i64 hx⟩
theorem ty5 {n : Nat} {cs : List Cell} (h : Typed tt (n + 1) 5 cs) : ∃ x : Int, cs = [.v (.int .u8 x)] ∧ (0 ≤ x ∧ x ≤ 255) := by
  obtain ⟨x, rfl, hx⟩ := Typed.int h tt5 rfl
  exact ⟨x, rfl, wfi_u8 hx⟩
theorem ty28 {n : Nat} {cs : List Cell} (h : Typed tt (n + 2) 28 cs) : ∃ x : (List Int), cs = [.slice .no (intsR .u8 x)] ∧ OeS_I_u8 x := by
  obtain ⟨L, rfl, h2, h3⟩ := Typed.ints h tt28 rfl tt5 rfl
  exact ⟨L, rfl, h2, fun a ha => wfi_u8 (h3 a ha)⟩
theorem ty30 {n : Nat} {cs : List Cell} (h : Typed tt (n + 3) 30 cs) : ∃ x : Tapi_Output, cs = [.v (.int .i64 x.1), .slice .no (intsR .u8 x.2)] ∧ Oeapi_Output x := by
  obtain ⟨a0, _, rfl, h0, a1, _, rfl, h1, rfl⟩ := Typed.fs h tt30 rfl
  obtain ⟨x0, rfl, o0⟩ := ty2 h0
  obtain ⟨x1, rfl, o1⟩ := ty28 h1
  exact ⟨(x0, x1), by simp, ⟨o0, o1⟩⟩
theorem ty4 {n : Nat} {cs : List Cell} (h : Typed tt (n + 1) 4 cs) : ∃ x : Bool, cs = [.v (.bool x)] ∧ True := by
  simp only [Typed, tt4] at h
  obtain ⟨x, rfl⟩ := h
  exact ⟨x, rfl, trivial⟩
theorem ty32 {n : Nat} {cs : List Cell} (h : Typed tt (n + 4) 32 cs) : ∃ x : Tapi_Coin, cs = (arC .u8 x.1.1) ++ ((.v (.int .u32 x.1.2)) :: ((.v (.int .i64 x.2.1.1)) :: ((.slice .no (intsR .u8 x.2.1.2)) :: ((.v (.int .i64 x.2.2.1)) :: ((.v (.bool x.2.2.2)) :: []))))) ∧ Oeapi_Coin x := by
  obtain ⟨a0, _, rfl, h0, a1, _, rfl, h1, a2, _, rfl, h2, a3, _, rfl, h3, rfl⟩ := Typed.fs h tt32 rfl
  obtain ⟨x0, rfl, o0⟩ := ty27 h0
  obtain ⟨x1, rfl, o1⟩ := ty30 h1
  obtain ⟨x2, rfl, o2⟩ := ty3 h2
  obtain ⟨x3, rfl, o3⟩ := ty4 h3
  exact ⟨(x0, x1, x2, x3), by simp, ⟨o0, o1, o2, o3⟩⟩
theorem ty34 {n : Nat} {cs : List Cell} (h : Typed tt (n + 5) 34 cs) : ∃ x : Tapi_Spendable, cs = (arC .u8 x.1.1.1) ++ ((.v (.int .u32 x.1.1.2)) :: ((.v (.int .i64 x.1.2.1.1)) :: ((.slice .no (intsR .u8 x.1.2.1.2)) :: ((.v (.int .i64 x.1.2.2.1)) :: ((.v (.bool x.1.2.2.2)) :: ((.v (.int .i64 x.2)) :: [])))))) ∧ Oeapi_Spendable x := by
  obtain ⟨a0, _, rfl, h0, a1, _, rfl, h1, rfl⟩ := Typed.fs h tt34 rfl
  obtain ⟨x0, rfl, o0⟩ := ty32 h0
  obtain ⟨x1, rfl, o1⟩ := ty3 h1
  exact ⟨(x0, x1), by simp, ⟨o0, o1⟩⟩
theorem arg34 (hv : Value.okWide Try.prog W r b0 34 v) (h : DataW.Trod enc Try.prog w base spare held 34 v d ps) : ∃ (x : Tapi_Spendable) (cs : Array Value), v = .agg cs ∧ RepL (fun b _ => b < w.heap.size) w ((arC .u8 x.1.1.1) ++ ((.v (.int .u32 x.1.1.2)) :: ((.v (.int .i64 x.1.2.1.1)) :: ((.slice .no (intsR .u8 x.1.2.1.2)) :: ((.v (.int .i64 x.1.2.2.1)) :: ((.v (.bool x.1.2.2.2)) :: ((.v (.int .i64 x.2)) :: []))))))) cs.toList ∧ Oeapi_Spendable x := by
  obtain ⟨cells, cs, rfl, h1, h2⟩ := open_struct htt 5 (by kernel_rfl) Try.underlying34 hv h
  obtain ⟨x, rfl, hx⟩ := ty34 (n := 0) h2
  exact ⟨x, cs, rfl, h1, hx⟩
theorem run3 {H : Type} {enc : TypeId × Value → H} {W w : World} {base b0 : Nat} {spare : Nat → Bool} {held : Bool} {r : Reach} {v0 : Value} {d0 : DataW H} {p0 : List MemPlace} {v1 : Value} {d1 : DataW H} {p1 : List MemPlace} {v2 : Value} {d2 : DataW H} {p2 : List MemPlace} {v3 : Value} {d3 : DataW H} {p3 : List MemPlace} (hv0 : Value.okWide Try.prog W r b0 3 v0) (hv1 : Value.okWide Try.prog W r b0 3 v1) (hv2 : Value.okWide Try.prog W r b0 22 v2) (hv3 : Value.okWide Try.prog W r b0 34 v3) (h0 : DataW.Trod enc Try.prog w base spare held 3 v0 d0 p0) (h1 : DataW.Trod enc Try.prog w base spare held 3 v1 d1 p1) (h2 : DataW.Trod enc Try.prog w base spare held 22 v2 d2 p2) (h3 : DataW.Trod enc Try.prog w base spare held 34 v3 d3 p3) : Calls Try.prog 3 #[v0, v1, v2, v3] w fun e w' => e = .returned (.bool true) ∧ Below w.heap.size w w' := by
  obtain ⟨x0, r0, o0⟩ := arg3 hv0 h0
  obtain ⟨x1, r1, o1⟩ := arg3 hv1 h1
  obtain ⟨x2, r2, o2⟩ := arg22 hv2 h2
  obtain ⟨x3, cs3, rfl, r3, o3⟩ := arg34 hv3 h3
  have hF : G_Llaw34_BuildWeights [.one (.v (.int .i64 x0)), .one (.v (.int .i64 x1)), .one (.slice .no (intsR .i64 x2)), .agg ((arC .u8 x3.1.1.1) ++ ((.v (.int .u32 x3.1.1.2)) :: ((.v (.int .i64 x3.1.2.1.1)) :: ((.slice .no (intsR .u8 x3.1.2.1.2)) :: ((.v (.int .i64 x3.1.2.2.1)) :: ((.v (.bool x3.1.2.2.2)) :: ((.v (.int .i64 x3.2)) :: [])))))))] = some (bP true, []) := G_Llaw34_BuildWeights_eq (buildWeights x0 x1 x2 x3 o2.1)
  exact law_of (v3 (G := fun _ => none)) glob_none (fun _ _ h => h) (args_one r0 (args_one r1 (args_one r2 (args_agg r3 .nil)))) hF

theorem run4 {H : Type} {enc : TypeId × Value → H} {W w : World} {base b0 : Nat} {spare : Nat → Bool} {held : Bool} {r : Reach} {v0 : Value} {d0 : DataW H} {p0 : List MemPlace} {v1 : Value} {d1 : DataW H} {p1 : List MemPlace} {v2 : Value} {d2 : DataW H} {p2 : List MemPlace} (hv0 : Value.okWide Try.prog W r b0 22 v0) (hv1 : Value.okWide Try.prog W r b0 3 v1) (hv2 : Value.okWide Try.prog W r b0 3 v2) (h0 : DataW.Trod enc Try.prog w base spare held 22 v0 d0 p0) (h1 : DataW.Trod enc Try.prog w base spare held 3 v1 d1 p1) (h2 : DataW.Trod enc Try.prog w base spare held 3 v2 d2 p2) : Calls Try.prog 4 #[v0, v1, v2] w fun e w' => e = .returned (.bool true) ∧ Below w.heap.size w w' := by
  obtain ⟨x0, r0, o0⟩ := arg22 hv0 h0
  obtain ⟨x1, r1, o1⟩ := arg3 hv1 h1
  obtain ⟨x2, r2, o2⟩ := arg3 hv2 h2
  have hF : G_Llaw34_BuildValid [.one (.slice .no (intsR .i64 x0)), .one (.v (.int .i64 x1)), .one (.v (.int .i64 x2))] = some (bP true, []) := G_Llaw34_BuildValid_eq (buildValid x0 x1 x2 o0.1)
  exact law_of (v4 (G := fun _ => none)) glob_none (fun _ _ h => h) (args_one r0 (args_one r1 (args_one r2 .nil))) hF

end Go.Proofs.Ytanhccemhpmnhaa
