import Derived.Test.YtmjbklblgpnagaaLfV
import Derived.Test.YtmjbklblgpnagaaAvP3
import Derived.Test.YtmjbklblgpnagaaLcG2
import Derived.Test.YtmjbklblgpnagaaLcG3
namespace Go.Proofs.Ytmjbklblgpnagaa
open Go.RowKit
open Go.Av
open Go.Lc
set_option maxRecDepth 100000
set_option linter.unusedVariables false
set_option linter.unusedSimpArgs false
variable {H : Type} {enc : TypeId × Value → H} {W w : World} {base b0 : Nat} {spare : Nat → Bool} {held : Bool} {r : Reach} {v : Value} {d : DataW H} {ps : List MemPlace}
theorem ty34 {n : Nat} {cs : List Cell} (h : YB tt (n + 2) 34 cs) : ∃ x : (Arr 2), cs = arC .u64 x ∧ ZgT x := by
  obtain ⟨x, rfl, hx⟩ := YB.arr h tt34 rfl tt32 rfl
  exact ⟨x, rfl, fun a ha => Zjr (hx a ha)⟩
theorem Zo6 (hv : Value.okWide Try.prog W r b0 34 v) (h : DataW.Trod enc Try.prog w base spare held 34 v d ps) : ∃ (x : (Arr 2)) (cs : Array Value), v = .agg cs ∧ Yk (fun b _ => b < w.heap.size) w (arC .u64 x) cs.toList ∧ ZgT x := by
  obtain ⟨cells, cs, rfl, h1, h2⟩ := Zj6 htt 2 (by kernel_rfl) Try.underlying34 hv h
  obtain ⟨x, rfl, hx⟩ := ty34 (n := 0) h2
  exact ⟨x, cs, rfl, h1, hx⟩
theorem ty3 {n : Nat} {cs : List Cell} (h : YB tt (n + 1) 3 cs) : ∃ x : Int, cs = [.v (.int .i64 x)] ∧ (-9223372036854775808 ≤ x ∧ x ≤ 9223372036854775807) := by
  obtain ⟨x, rfl, hx⟩ := YB.int h tt3 rfl
  exact ⟨x, rfl, Zm4 hx⟩
theorem ty5 {n : Nat} {cs : List Cell} (h : YB tt (n + 1) 5 cs) : ∃ x : Int, cs = [.v (.int .u8 x)] ∧ (0 ≤ x ∧ x ≤ 255) := by
  obtain ⟨x, rfl, hx⟩ := YB.int h tt5 rfl
  exact ⟨x, rfl, ZkV hx⟩
theorem ty24 {n : Nat} {cs : List Cell} (h : YB tt (n + 2) 24 cs) : ∃ x : (List Int), cs = [.slice .no (Zi .u8 x)] ∧ Zfg x := by
  obtain ⟨L, rfl, h2, h3⟩ := YB.ints h tt24 rfl tt5 rfl
  exact ⟨L, rfl, h2, fun a ha => ZkV (h3 a ha)⟩
theorem ty26 {n : Nat} {cs : List Cell} (h : YB tt (n + 3) 26 cs) : ∃ x : Tapi_Filter, cs = [.v (.int .i64 x.1), .slice .no (Zi .u8 x.2)] ∧ ZfI x := by
  obtain ⟨a0, _, rfl, h0, a1, _, rfl, h1, rfl⟩ := YB.fs h tt26 rfl
  obtain ⟨x0, rfl, o0⟩ := ty3 h0
  obtain ⟨x1, rfl, o1⟩ := ty24 h1
  exact ⟨(x0, x1), by simp, ⟨o0, o1⟩⟩
theorem Zo7 (hv : Value.okWide Try.prog W r b0 26 v) (h : DataW.Trod enc Try.prog w base spare held 26 v d ps) : ∃ (x : Tapi_Filter) (cs : Array Value), v = .agg cs ∧ Yk (fun b _ => b < w.heap.size) w ([.v (.int .i64 x.1), .slice .no (Zi .u8 x.2)]) cs.toList ∧ ZfI x := by
  obtain ⟨cells, cs, rfl, h1, h2⟩ := Zi9 htt 3 (by kernel_rfl) Try.underlying26 hv h
  obtain ⟨x, rfl, hx⟩ := ty26 (n := 0) h2
  exact ⟨x, cs, rfl, h1, hx⟩
theorem ty35 {n : Nat} {cs : List Cell} (h : YB tt (n + 3) 35 cs) : ∃ x : (List (List Int)), cs = [.slice .no (List.map Ym x)] ∧ ZgU x := by
  obtain ⟨L, rfl, h2, h3⟩ := YB.row h tt35 rfl (f := Ym) (R := fun a => Zfg a) fun l hl => by
    obtain ⟨a, rfl, ha⟩ := ty24 hl
    exact ⟨a, by simp, ha⟩
  exact ⟨L, rfl, h2, h3⟩
theorem ZmC (hv : Value.okWide Try.prog W r b0 35 v) (h : DataW.Trod enc Try.prog w base spare held 35 v d ps) : ∃ x : (List (List Int)), Yk (fun b _ => b < w.heap.size) w [.slice .no (List.map Ym x)] [v] ∧ ZgU x := by
  obtain ⟨cells, h1, h2⟩ := Zj5 htt 3 (by kernel_rfl) Try.underlying35 hv h
  obtain ⟨x, rfl, hx⟩ := ty35 (n := 0) h2
  exact ⟨x, h1, hx⟩
theorem arg3 (hv : Value.okWide Try.prog W r b0 3 v) (h : DataW.Trod enc Try.prog w base spare held 3 v d ps) : ∃ x : Int, Yk (fun b _ => b < w.heap.size) w [.v (.int .i64 x)] [v] ∧ (-9223372036854775808 ≤ x ∧ x ≤ 9223372036854775807) := by
  obtain ⟨cells, h1, h2⟩ := Ziq htt 1 (by kernel_rfl) Try.underlying3 hv h
  obtain ⟨x, rfl, hx⟩ := ty3 (n := 0) h2
  exact ⟨x, h1, hx⟩
theorem ty32 {n : Nat} {cs : List Cell} (h : YB tt (n + 1) 32 cs) : ∃ x : Int, cs = [.v (.int .u64 x)] ∧ (0 ≤ x ∧ x ≤ 18446744073709551615) := by
  obtain ⟨x, rfl, hx⟩ := YB.int h tt32 rfl
  exact ⟨x, rfl, Zjr hx⟩
theorem Zo8 (hv : Value.okWide Try.prog W r b0 32 v) (h : DataW.Trod enc Try.prog w base spare held 32 v d ps) : ∃ x : Int, Yk (fun b _ => b < w.heap.size) w [.v (.int .u64 x)] [v] ∧ (0 ≤ x ∧ x ≤ 18446744073709551615) := by
  obtain ⟨cells, h1, h2⟩ := Ziq htt 1 (by kernel_rfl) Try.underlying32 hv h
  obtain ⟨x, rfl, hx⟩ := ty32 (n := 0) h2
  exact ⟨x, h1, hx⟩
theorem run9 {H : Type} {enc : TypeId × Value → H} {W w : World} {base b0 : Nat} {spare : Nat → Bool} {held : Bool} {r : Reach} {v0 : Value} {d0 : DataW H} {p0 : List MemPlace} {v1 : Value} {d1 : DataW H} {p1 : List MemPlace} {v2 : Value} {d2 : DataW H} {p2 : List MemPlace} {v3 : Value} {d3 : DataW H} {p3 : List MemPlace} {v4 : Value} {d4 : DataW H} {p4 : List MemPlace} {v5 : Value} {d5 : DataW H} {p5 : List MemPlace} (hv0 : Value.okWide Try.prog W r b0 34 v0) (hv1 : Value.okWide Try.prog W r b0 26 v1) (hv2 : Value.okWide Try.prog W r b0 35 v2) (hv3 : Value.okWide Try.prog W r b0 35 v3) (hv4 : Value.okWide Try.prog W r b0 3 v4) (hv5 : Value.okWide Try.prog W r b0 32 v5) (h0 : DataW.Trod enc Try.prog w base spare held 34 v0 d0 p0) (h1 : DataW.Trod enc Try.prog w base spare held 26 v1 d1 p1) (h2 : DataW.Trod enc Try.prog w base spare held 35 v2 d2 p2) (h3 : DataW.Trod enc Try.prog w base spare held 35 v3 d3 p3) (h4 : DataW.Trod enc Try.prog w base spare held 3 v4 d4 p4) (h5 : DataW.Trod enc Try.prog w base spare held 32 v5 d5 p5) : Calls Try.prog 9 #[v0, v1, v2, v3, v4, v5] w fun e w' => e = .returned (.bool true) ∧ Below w.heap.size w w' := by
  obtain ⟨x0, cs0, rfl, r0, o0⟩ := Zo6 hv0 h0
  obtain ⟨x1, cs1, rfl, r1, o1⟩ := Zo7 hv1 h1
  obtain ⟨x2, r2, o2⟩ := ZmC hv2 h2
  obtain ⟨x3, r3, o3⟩ := ZmC hv3 h3
  obtain ⟨x4, r4, o4⟩ := arg3 hv4 h4
  obtain ⟨x5, r5, o5⟩ := Zo8 hv5 h5
  have hF : G9 [.agg (arC .u64 x0), .agg ([.v (.int .i64 x1.1), .slice .no (Zi .u8 x1.2)]), .one (.slice .no (List.map Ym x2)), .one (.slice .no (List.map Ym x3)), .one (.v (.int .i64 x4)), .one (.v (.int .u64 x5))] = some (bP true, []) := Zo5 (golombMatches x0 x1 x2 x3 x4 x5 o1.2.2 o2 o3)
  exact ZnD (v9 (G := fun _ => none)) ZkM (fun _ _ h => h) (Zip r0 (Zip r1 (Zfd r2 (Zfd r3 (Zfd r4 (Zfd r5 .nil)))))) hF
end Go.Proofs.Ytmjbklblgpnagaa
