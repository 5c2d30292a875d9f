import Derived.Test.YtjdoijdjeapekaaLfV
import Derived.Test.YtjdoijdjeapekaaAvP3
import Derived.Test.YtjdoijdjeapekaaLcG3
import Derived.Test.YtjdoijdjeapekaaLcG6
namespace Go.Proofs.Ytjdoijdjeapekaa
open Go.RowKit
open Go.Av
open Go.Lc
set_option maxRecDepth 100000
set_option linter.unusedVariables false
set_option linter.unusedSimpArgs false
variable {H : Type} {enc : TypeId×Value→H} {W w : World} {base b0 : Nat} {spare : Nat→Bool} {held : Bool} {r : Reach} {v : Value} {d : DataW H} {ps : List MemPlace}
theorem ty3 {n : Nat} {cs : List Cell} (h : Typed tt (n + 1) 3 cs) : ∃ x : Int,cs = [.v (.int .i64 x)]∧(-9223372036854775808≤x∧x≤9223372036854775807):=by
  obtain ⟨x,rfl,hx⟩:=Typed.int h tt3 rfl;exact ⟨x,rfl,wfi_i64 hx⟩
theorem ty22 {n : Nat} {cs : List Cell} (h : Typed tt (n + 2) 22 cs) : ∃ x : (List Int),cs = [.slice .no (intsR .i64 x)]∧OeS_I_i64 x:=by
  obtain ⟨L,rfl,h2,h3⟩:=Typed.ints h tt22 rfl tt3 rfl;exact ⟨L,rfl,h2,fun a ha=>wfi_i64 (h3 a ha)⟩
theorem arg22 (hv : Value.okWide Try.prog W r b0 22 v) (h : DataW.Trod enc Try.prog w base spare held 22 v d ps) : ∃ x : (List Int),RepL (fun b _=>b < w.heap.size) w [.slice .no (intsR .i64 x)] [v]∧OeS_I_i64 x:=by
  obtain ⟨cells,h1,h2⟩:=open_slice htt 2 (by kernel_rfl) Try.underlying22 hv h;obtain ⟨x,rfl,hx⟩:=ty22 (n:=0) h2;exact ⟨x,h1,hx⟩
theorem arg3 (hv : Value.okWide Try.prog W r b0 3 v) (h : DataW.Trod enc Try.prog w base spare held 3 v d ps) : ∃ x : Int,RepL (fun b _=>b < w.heap.size) w [.v (.int .i64 x)] [v]∧(-9223372036854775808≤x∧x≤9223372036854775807):=by
  obtain ⟨cells,h1,h2⟩:=open_int htt 1 (by kernel_rfl) Try.underlying3 hv h;obtain ⟨x,rfl,hx⟩:=ty3 (n:=0) h2;exact ⟨x,h1,hx⟩
theorem ty23 {n : Nat} {cs : List Cell} (h : Typed tt (n + 1) 23 cs) : ∃ x : Int,cs = [.v (.int .u32 x)]∧(0≤x∧x≤4294967295):=by
  obtain ⟨x,rfl,hx⟩:=Typed.int h tt23 rfl;exact ⟨x,rfl,wfi_u32 hx⟩
theorem arg23 (hv : Value.okWide Try.prog W r b0 23 v) (h : DataW.Trod enc Try.prog w base spare held 23 v d ps) : ∃ x : Int,RepL (fun b _=>b < w.heap.size) w [.v (.int .u32 x)] [v]∧(0≤x∧x≤4294967295):=by
  obtain ⟨cells,h1,h2⟩:=open_int htt 1 (by kernel_rfl) Try.underlying23 hv h;obtain ⟨x,rfl,hx⟩:=ty23 (n:=0) h2;exact ⟨x,h1,hx⟩
theorem run3 {H : Type} {enc : TypeId×Value→H} {W w : World} {base b0 : Nat} {spare : Nat→Bool} {held : Bool} {r : Reach} {v0 : Value} {d0 : DataW H} {p0 : List MemPlace} {v1 : Value} {d1 : DataW H} {p1 : List MemPlace} {v2 : Value} {d2 : DataW H} {p2 : List MemPlace} {v3 : Value} {d3 : DataW H} {p3 : List MemPlace} (hv0 : Value.okWide Try.prog W r b0 22 v0) (hv1 : Value.okWide Try.prog W r b0 3 v1) (hv2 : Value.okWide Try.prog W r b0 3 v2) (hv3 : Value.okWide Try.prog W r b0 23 v3) (h0 : DataW.Trod enc Try.prog w base spare held 22 v0 d0 p0) (h1 : DataW.Trod enc Try.prog w base spare held 3 v1 d1 p1) (h2 : DataW.Trod enc Try.prog w base spare held 3 v2 d2 p2) (h3 : DataW.Trod enc Try.prog w base spare held 23 v3 d3 p3) : Calls Try.prog 3 #[v0,v1,v2,v3] w fun e w'=>e = .returned (.bool true)∧Below w.heap.size w w' := by
  obtain ⟨x0,r0,o0⟩:=arg22 hv0 h0;obtain ⟨x1,r1,o1⟩:=arg3 hv1 h1;obtain ⟨x2,r2,o2⟩:=arg3 hv2 h2;obtain ⟨x3,r3,o3⟩:=arg23 hv3 h3;have hF : G3 [.one (.slice .no (intsR .i64 x0)),.one (.v (.int .i64 x1)),.one (.v (.int .i64 x2)),.one (.v (.int .u32 x3))] = some (bP true,[]):=G3_eq (buildBalances x0 x1 x2 x3 o0.1);exact law_of (Go.Proofs.Ytjdoijdjeapekaa.v3 (G:=fun _=>none)) glob_none (fun _ _ h=>h) (args_one r0 (args_one r1 (args_one r2 (args_one r3 .nil)))) hF

end Go.Proofs.Ytjdoijdjeapekaa
