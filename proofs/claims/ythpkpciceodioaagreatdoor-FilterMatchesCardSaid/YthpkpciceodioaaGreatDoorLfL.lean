import Derived.Test.YthpkpciceodioaaGreatDoorLfV
import Derived.Test.YthpkpciceodioaaGreatDoorAvP3
import Derived.Test.YthpkpciceodioaaGreatDoorLcG6
import Derived.Test.YthpkpciceodioaaGreatDoorGl
import Derived.Test.YthpkpciceodioaaGreatDoorLcG6
namespace Go.Proofs.YthpkpciceodioaaGreatDoor
open Go.RowKit
open Go.Av
open Go.Lc
set_option maxRecDepth 100000
set_option linter.unusedVariables false
set_option linter.unusedSimpArgs false
variable {H : Type} {enc : TypeId×Value→H} {W w : World} {base b0 : Nat} {spare : Nat→Bool} {held : Bool} {r : Reach} {v : Value} {d : DataW H} {ps : List MemPlace}
theorem ty3 {n : Nat} {cs : List Cell} (h : Ys tt (n + 1) 3 cs) : ∃ x : Int,cs = [.v (.int .i64 x)]∧(-9223372036854775808≤x∧x≤9223372036854775807):=by
  obtain ⟨x,rfl,hx⟩:=Ys.int h tt3 rfl;exact ⟨x,rfl,Zqp hx⟩
theorem ty5 {n : Nat} {cs : List Cell} (h : Ys tt (n + 1) 5 cs) : ∃ x : Int,cs = [.v (.int .u8 x)]∧(0≤x∧x≤255):=by
  obtain ⟨x,rfl,hx⟩:=Ys.int h tt5 rfl;exact ⟨x,rfl,Zk9 hx⟩
theorem ty32 {n : Nat} {cs : List Cell} (h : Ys tt (n + 2) 32 cs) : ∃ x : (List Int),cs = [.slice .no (Ze .u8 x)]∧ZgU x:=by
  obtain ⟨L,rfl,h2,h3⟩:=Ys.ints h tt32 rfl tt5 rfl;exact ⟨L,rfl,h2,fun a ha=>Zk9 (h3 a ha)⟩
theorem ty34 {n : Nat} {cs : List Cell} (h : Ys tt (n + 3) 34 cs) : ∃ x : Tapi_Filter,cs = [.v (.int .i64 x.1),.slice .no (Ze .u8 x.2)]∧Zhv x:=by
  obtain ⟨a0,_,rfl,h0,a1,_,rfl,h1,rfl⟩:=Ys.fs h tt34 rfl;obtain ⟨x0,rfl,o0⟩:=ty3 h0;obtain ⟨x1,rfl,o1⟩:=ty32 h1;exact ⟨(x0,x1),by simp,⟨o0,o1⟩⟩
theorem ZsP (hv : Value.okWide Tryz.prog W r b0 34 v) (h : DataW.Trod enc Tryz.prog w base spare held 34 v d ps) : ∃ (x : Tapi_Filter) (cs : Array Value),v = .agg cs∧Z9 (fun b _=>b < w.heap.size) w ([.v (.int .i64 x.1),.slice .no (Ze .u8 x.2)]) cs.toList∧Zhv x:=by
  obtain ⟨cells,cs,rfl,h1,h2⟩:=Zlp htt 3 (by kernel_rfl) Tryz.underlying34 hv h;obtain ⟨x,rfl,hx⟩:=ty34 (n:=0) h2;exact ⟨x,cs,rfl,h1,hx⟩
theorem ty24 {n : Nat} {cs : List Cell} (h : Ys tt (n + 2) 24 cs) : ∃ x : (Arr 32),cs = arC .u8 x∧ZiR x:=by
  obtain ⟨x,rfl,hx⟩:=Ys.arr h tt24 rfl tt5 rfl;exact ⟨x,rfl,fun a ha=>Zk9 (hx a ha)⟩
theorem ZsQ (hv : Value.okWide Tryz.prog W r b0 24 v) (h : DataW.Trod enc Tryz.prog w base spare held 24 v d ps) : ∃ (x : (Arr 32)) (cs : Array Value),v = .agg cs∧Z9 (fun b _=>b < w.heap.size) w (arC .u8 x) cs.toList∧ZiR x:=by
  obtain ⟨cells,cs,rfl,h1,h2⟩:=ZmL htt 2 (by kernel_rfl) Tryz.underlying24 hv h;obtain ⟨x,rfl,hx⟩:=ty24 (n:=0) h2;exact ⟨x,cs,rfl,h1,hx⟩
theorem ty39 {n : Nat} {cs : List Cell} (h : Ys tt (n + 3) 39 cs) : ∃ x : (List (List Int)),cs = [.slice .no (List.map YF x)]∧ZiU x:=by
  obtain ⟨L,rfl,h2,h3⟩:=Ys.row h tt39 rfl (f:=YF) (R:=fun a=>ZgU a) fun l hl=>by
    obtain ⟨a,rfl,ha⟩:=ty32 hl;exact ⟨a,by simp,ha⟩
  exact ⟨L,rfl,h2,h3⟩
theorem ZsR (hv : Value.okWide Tryz.prog W r b0 39 v) (h : DataW.Trod enc Tryz.prog w base spare held 39 v d ps) : ∃ x : (List (List Int)),Z9 (fun b _=>b < w.heap.size) w [.slice .no (List.map YF x)] [v]∧ZiU x:=by
  obtain ⟨cells,h1,h2⟩:=ZmK htt 3 (by kernel_rfl) Tryz.underlying39 hv h;obtain ⟨x,rfl,hx⟩:=ty39 (n:=0) h2;exact ⟨x,h1,hx⟩
theorem run4 {H : Type} {enc : TypeId×Value→H} {W w : World} {base b0 : Nat} {spare : Nat→Bool} {held : Bool} {r : Reach} {v0 : Value} {d0 : DataW H} {p0 : List MemPlace} {v1 : Value} {d1 : DataW H} {p1 : List MemPlace} {v2 : Value} {d2 : DataW H} {p2 : List MemPlace} (hL : laidMetH Tryz.prog laid2 w) (hv0 : Value.okWide Tryz.prog W r b0 34 v0) (hv1 : Value.okWide Tryz.prog W r b0 24 v1) (hv2 : Value.okWide Tryz.prog W r b0 39 v2) (h0 : DataW.Trod enc Tryz.prog w base spare held 34 v0 d0 p0) (h1 : DataW.Trod enc Tryz.prog w base spare held 24 v1 d1 p1) (h2 : DataW.Trod enc Tryz.prog w base spare held 39 v2 d2 p2) : Calls Tryz.prog 4 #[v0,v1,v2] w fun e w'=>e = .returned (.bool true)∧Below w.heap.size w w' := by
  obtain ⟨x0,cs0,rfl,r0,o0⟩:=ZsP hv0 h0;obtain ⟨x1,cs1,rfl,r1,o1⟩:=ZsQ hv1 h1;obtain ⟨x2,r2,o2⟩:=ZsR hv2 h2;have hF : G4 [.agg ([.v (.int .i64 x0.1),.slice .no (Ze .u8 x0.2)]),.agg (arC .u8 x1),.one (.slice .no (List.map YF x2))] = some (bP true,[]):=ZsO (filterMatches x0 x1 x2 o0.2.2 o2);exact Zq7 v4 (Zny hL) (fun _ _ h=>h) (ZkI r0 (ZkI r1 (ZoQ r2 .nil))) hF
end Go.Proofs.YthpkpciceodioaaGreatDoor
