import Derived.Test.YtjdoijdjeapekaaGreatDoorLfV
import Derived.Test.YtjdoijdjeapekaaGreatDoorAvP3
import Derived.Test.YtjdoijdjeapekaaGreatDoorLcG3
import Derived.Test.YtjdoijdjeapekaaGreatDoorGl
import Derived.Test.YtjdoijdjeapekaaGreatDoorLcG5
namespace Go.Proofs.YtjdoijdjeapekaaGreatDoor
open Go.RowKit
open Go.Av
open Go.Lc
set_option maxRecDepth 100000
set_option linter.unusedVariables false
set_option linter.unusedSimpArgs false
variable {H : Type} {enc : TypeId×Value→H} {W w : World} {base b0 : Nat} {spare : Nat→Bool} {held : Bool} {r : Reach} {v : Value} {d : DataW H} {ps : List MemPlace}
theorem ty3 {n : Nat} {cs : List Cell} (h : Typed tt (n + 1) 3 cs) : ∃ x : Int,cs = [.v (.int .i64 x)]∧(-9223372036854775808≤x∧x≤9223372036854775807):=by
  obtain ⟨x,rfl,hx⟩:=Typed.int h tt3 rfl;exact ⟨x,rfl,wfi_i64 hx⟩
theorem ty22 {n : Nat} {cs : List Cell} (h : Typed tt (n + 2) 22 cs) : ∃ x : (List Int),cs = [.slice .no (intsR .i64 x)]∧OeS_I_i64 x:=by
  obtain ⟨L,rfl,h2,h3⟩:=Typed.ints h tt22 rfl tt3 rfl;exact ⟨L,rfl,h2,fun a ha=>wfi_i64 (h3 a ha)⟩
theorem arg22 (hv : Value.okWide Tryz.prog W r b0 22 v) (h : DataW.Trod enc Tryz.prog w base spare held 22 v d ps) : ∃ x : (List Int),RepL (fun b _=>b < w.heap.size) w [.slice .no (intsR .i64 x)] [v]∧OeS_I_i64 x:=by
  obtain ⟨cells,h1,h2⟩:=open_slice htt 2 (by kernel_rfl) Tryz.underlying22 hv h;obtain ⟨x,rfl,hx⟩:=ty22 (n:=0) h2;exact ⟨x,h1,hx⟩
theorem ty2 {n : Nat} {cs : List Cell} (h : Typed tt (n + 1) 2 cs) : ∃ x : Int,cs = [.v (.int .i64 x)]∧(-9223372036854775808≤x∧x≤9223372036854775807):=by
  obtain ⟨x,rfl,hx⟩:=Typed.int h tt2 rfl;exact ⟨x,rfl,wfi_i64 hx⟩
theorem arg2 (hv : Value.okWide Tryz.prog W r b0 2 v) (h : DataW.Trod enc Tryz.prog w base spare held 2 v d ps) : ∃ x : Int,RepL (fun b _=>b < w.heap.size) w [.v (.int .i64 x)] [v]∧(-9223372036854775808≤x∧x≤9223372036854775807):=by
  obtain ⟨cells,h1,h2⟩:=open_int htt 1 (by kernel_rfl) Tryz.underlying2 hv h;obtain ⟨x,rfl,hx⟩:=ty2 (n:=0) h2;exact ⟨x,h1,hx⟩
theorem arg3 (hv : Value.okWide Tryz.prog W r b0 3 v) (h : DataW.Trod enc Tryz.prog w base spare held 3 v d ps) : ∃ x : Int,RepL (fun b _=>b < w.heap.size) w [.v (.int .i64 x)] [v]∧(-9223372036854775808≤x∧x≤9223372036854775807):=by
  obtain ⟨cells,h1,h2⟩:=open_int htt 1 (by kernel_rfl) Tryz.underlying3 hv h;obtain ⟨x,rfl,hx⟩:=ty3 (n:=0) h2;exact ⟨x,h1,hx⟩
theorem run3 {H : Type} {enc : TypeId×Value→H} {W w : World} {base b0 : Nat} {spare : Nat→Bool} {held : Bool} {r : Reach} {v0 : Value} {d0 : DataW H} {p0 : List MemPlace} {v1 : Value} {d1 : DataW H} {p1 : List MemPlace} {v2 : Value} {d2 : DataW H} {p2 : List MemPlace} (hL : laidMetH Tryz.prog laid2 w) (hv0 : Value.okWide Tryz.prog W r b0 22 v0) (hv1 : Value.okWide Tryz.prog W r b0 2 v1) (hv2 : Value.okWide Tryz.prog W r b0 3 v2) (h0 : DataW.Trod enc Tryz.prog w base spare held 22 v0 d0 p0) (h1 : DataW.Trod enc Tryz.prog w base spare held 2 v1 d1 p1) (h2 : DataW.Trod enc Tryz.prog w base spare held 3 v2 d2 p2) : Calls Tryz.prog 3 #[v0,v1,v2] w fun e w'=>e = .returned (.bool true)∧Below w.heap.size w w' := by
  obtain ⟨x0,r0,o0⟩:=arg22 hv0 h0;obtain ⟨x1,r1,o1⟩:=arg2 hv1 h1;obtain ⟨x2,r2,o2⟩:=arg3 hv2 h2;have hF : G3 [.one (.slice .no (intsR .i64 x0)),.one (.v (.int .i64 x1)),.one (.v (.int .i64 x2))] = some (bP true,[]):=G3_eq (replaceInserts x0 x1 x2 o0.1);exact law_of v3 (glob_laid hL) (fun _ _ h=>h) (args_one r0 (args_one r1 (args_one r2 .nil))) hF

end Go.Proofs.YtjdoijdjeapekaaGreatDoor
