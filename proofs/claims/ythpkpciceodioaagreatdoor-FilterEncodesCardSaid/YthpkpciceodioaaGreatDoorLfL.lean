import Derived.Test.YthpkpciceodioaaGreatDoorLfV
import Derived.Test.YthpkpciceodioaaGreatDoorAvP3
import Derived.Test.YthpkpciceodioaaGreatDoorLcG6
import Derived.Test.YthpkpciceodioaaGreatDoorGl
import Derived.Test.YthpkpciceodioaaGreatDoorLcG3
import Derived.Test.YthpkpciceodioaaGreatDoorLcG5
namespace Go.Proofs.YthpkpciceodioaaGreatDoor
open Go.RowKit
open Go.Av
open Go.Lc
set_option maxRecDepth 100000
set_option linter.unusedVariables false
set_option linter.unusedSimpArgs false
variable {H : Type} {enc : TypeId×Value→H} {W w : World} {base b0 : Nat} {spare : Nat→Bool} {held : Bool} {r : Reach} {v : Value} {d : DataW H} {ps : List MemPlace}
theorem ty3 {n : Nat} {cs : List Cell} (h : Typed tt (n + 1) 3 cs) : ∃ x : Int,cs = [.v (.int .i64 x)]∧(-9223372036854775808≤x∧x≤9223372036854775807):=by
  obtain ⟨x,rfl,hx⟩:=Typed.int h tt3 rfl;exact ⟨x,rfl,wfi_i64 hx⟩
theorem ty5 {n : Nat} {cs : List Cell} (h : Typed tt (n + 1) 5 cs) : ∃ x : Int,cs = [.v (.int .u8 x)]∧(0≤x∧x≤255):=by
  obtain ⟨x,rfl,hx⟩:=Typed.int h tt5 rfl;exact ⟨x,rfl,wfi_u8 hx⟩
theorem ty32 {n : Nat} {cs : List Cell} (h : Typed tt (n + 2) 32 cs) : ∃ x : (List Int),cs = [.slice .no (intsR .u8 x)]∧OeS_I_u8 x:=by
  obtain ⟨L,rfl,h2,h3⟩:=Typed.ints h tt32 rfl tt5 rfl;exact ⟨L,rfl,h2,fun a ha=>wfi_u8 (h3 a ha)⟩
theorem ty34 {n : Nat} {cs : List Cell} (h : Typed tt (n + 3) 34 cs) : ∃ x : Tapi_Filter,cs = [.v (.int .i64 x.1),.slice .no (intsR .u8 x.2)]∧Oeapi_Filter x:=by
  obtain ⟨a0,_,rfl,h0,a1,_,rfl,h1,rfl⟩:=Typed.fs h tt34 rfl;obtain ⟨x0,rfl,o0⟩:=ty3 h0;obtain ⟨x1,rfl,o1⟩:=ty32 h1;exact ⟨(x0,x1),by simp,⟨o0,o1⟩⟩
theorem arg34 (hv : Value.okWide Tryz.prog W r b0 34 v) (h : DataW.Trod enc Tryz.prog w base spare held 34 v d ps) : ∃ (x : Tapi_Filter) (cs : Array Value),v = .agg cs∧RepL (fun b _=>b < w.heap.size) w ([.v (.int .i64 x.1),.slice .no (intsR .u8 x.2)]) cs.toList∧Oeapi_Filter x:=by
  obtain ⟨cells,cs,rfl,h1,h2⟩:=open_struct htt 3 (by kernel_rfl) Tryz.underlying34 hv h;obtain ⟨x,rfl,hx⟩:=ty34 (n:=0) h2;exact ⟨x,cs,rfl,h1,hx⟩
theorem arg32 (hv : Value.okWide Tryz.prog W r b0 32 v) (h : DataW.Trod enc Tryz.prog w base spare held 32 v d ps) : ∃ x : (List Int),RepL (fun b _=>b < w.heap.size) w [.slice .no (intsR .u8 x)] [v]∧OeS_I_u8 x:=by
  obtain ⟨cells,h1,h2⟩:=open_slice htt 2 (by kernel_rfl) Tryz.underlying32 hv h;obtain ⟨x,rfl,hx⟩:=ty32 (n:=0) h2;exact ⟨x,h1,hx⟩
theorem ty24 {n : Nat} {cs : List Cell} (h : Typed tt (n + 2) 24 cs) : ∃ x : (Arr 32),cs = arC .u8 x∧OeA32_I_u8 x:=by
  obtain ⟨x,rfl,hx⟩:=Typed.arr h tt24 rfl tt5 rfl;exact ⟨x,rfl,fun a ha=>wfi_u8 (hx a ha)⟩
theorem arg24 (hv : Value.okWide Tryz.prog W r b0 24 v) (h : DataW.Trod enc Tryz.prog w base spare held 24 v d ps) : ∃ (x : (Arr 32)) (cs : Array Value),v = .agg cs∧RepL (fun b _=>b < w.heap.size) w (arC .u8 x) cs.toList∧OeA32_I_u8 x:=by
  obtain ⟨cells,cs,rfl,h1,h2⟩:=open_array htt 2 (by kernel_rfl) Tryz.underlying24 hv h;obtain ⟨x,rfl,hx⟩:=ty24 (n:=0) h2;exact ⟨x,cs,rfl,h1,hx⟩
theorem run8 {H : Type} {enc : TypeId×Value→H} {W w : World} {base b0 : Nat} {spare : Nat→Bool} {held : Bool} {r : Reach} {v0 : Value} {d0 : DataW H} {p0 : List MemPlace} {v1 : Value} {d1 : DataW H} {p1 : List MemPlace} {v2 : Value} {d2 : DataW H} {p2 : List MemPlace} {v3 : Value} {d3 : DataW H} {p3 : List MemPlace} (hL : laidMetH Tryz.prog laid2 w) (hv0 : Value.okWide Tryz.prog W r b0 34 v0) (hv1 : Value.okWide Tryz.prog W r b0 32 v1) (hv2 : Value.okWide Tryz.prog W r b0 24 v2) (hv3 : Value.okWide Tryz.prog W r b0 24 v3) (h0 : DataW.Trod enc Tryz.prog w base spare held 34 v0 d0 p0) (h1 : DataW.Trod enc Tryz.prog w base spare held 32 v1 d1 p1) (h2 : DataW.Trod enc Tryz.prog w base spare held 24 v2 d2 p2) (h3 : DataW.Trod enc Tryz.prog w base spare held 24 v3 d3 p3) : Calls Tryz.prog 8 #[v0,v1,v2,v3] w fun e w'=>e = .returned (.bool true)∧Below w.heap.size w w' := by
  obtain ⟨x0,cs0,rfl,r0,o0⟩:=arg34 hv0 h0;obtain ⟨x1,r1,o1⟩:=arg32 hv1 h1;obtain ⟨x2,cs2,rfl,r2,o2⟩:=arg24 hv2 h2;obtain ⟨x3,cs3,rfl,r3,o3⟩:=arg24 hv3 h3;have hF : G8 [.agg ([.v (.int .i64 x0.1),.slice .no (intsR .u8 x0.2)]),.one (.slice .no (intsR .u8 x1)),.agg (arC .u8 x2),.agg (arC .u8 x3)] = some (bP true,[]):=G8_eq (filterEncodes x0 x1 x2 x3 o0.2.2 o1.2);exact law_of v8 (glob_laid hL) (fun _ _ h=>h) (args_agg r0 (args_one r1 (args_agg r2 (args_agg r3 .nil)))) hF

end Go.Proofs.YthpkpciceodioaaGreatDoor
