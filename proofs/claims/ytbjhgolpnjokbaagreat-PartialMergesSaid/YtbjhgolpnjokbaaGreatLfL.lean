import Derived.Test.YtbjhgolpnjokbaaGreatLfV
import Derived.Test.YtbjhgolpnjokbaaGreatAvP3
import Derived.Test.YtbjhgolpnjokbaaGreatLcG2
import Derived.Test.YtbjhgolpnjokbaaGreatLcG4
namespace Go.Proofs.YtbjhgolpnjokbaaGreat
open Go.RowKit
open Go.Av
open Go.Lc
set_option maxRecDepth 100000
set_option linter.unusedVariables false
set_option linter.unusedSimpArgs false
variable {H : Type} {enc : TypeId×Value→H} {W w : World} {base b0 : Nat} {spare : Nat→Bool} {held : Bool} {r : Reach} {v : Value} {d : DataW H} {ps : List MemPlace}
theorem ty3 {n : Nat} {cs : List Cell} (h : Yp tt (n + 1) 3 cs) : ∃ x : Int,cs = [.v (.int .i64 x)]∧(-9223372036854775808≤x∧x≤9223372036854775807):=by
  obtain ⟨x,rfl,hx⟩:=Yp.int h tt3 rfl;exact ⟨x,rfl,ZnD hx⟩
theorem ty22 {n : Nat} {cs : List Cell} (h : Yp tt (n + 2) 22 cs) : ∃ x : (List Int),cs = [.slice .no (Zl .i64 x)]∧ZlJ x:=by
  obtain ⟨L,rfl,h2,h3⟩:=Yp.ints h tt22 rfl tt3 rfl;exact ⟨L,rfl,h2,fun a ha=>ZnD (h3 a ha)⟩
theorem Zrc (hv : Value.okWide Tryz.prog W r b0 22 v) (h : DataW.Trod enc Tryz.prog w base spare held 22 v d ps) : ∃ x : (List Int),Z8 (fun b _=>b < w.heap.size) w [.slice .no (Zl .i64 x)] [v]∧ZlJ x:=by
  obtain ⟨cells,h1,h2⟩:=Zot htt 2 (by kernel_rfl) Tryz.underlying22 hv h;obtain ⟨x,rfl,hx⟩:=ty22 (n:=0) h2;exact ⟨x,h1,hx⟩
theorem arg3 (hv : Value.okWide Tryz.prog W r b0 3 v) (h : DataW.Trod enc Tryz.prog w base spare held 3 v d ps) : ∃ x : Int,Z8 (fun b _=>b < w.heap.size) w [.v (.int .i64 x)] [v]∧(-9223372036854775808≤x∧x≤9223372036854775807):=by
  obtain ⟨cells,h1,h2⟩:=Zqx htt 1 (by kernel_rfl) Tryz.underlying3 hv h;obtain ⟨x,rfl,hx⟩:=ty3 (n:=0) h2;exact ⟨x,h1,hx⟩
theorem run4 {H : Type} {enc : TypeId×Value→H} {W w : World} {base b0 : Nat} {spare : Nat→Bool} {held : Bool} {r : Reach} {v0 : Value} {d0 : DataW H} {p0 : List MemPlace} {v1 : Value} {d1 : DataW H} {p1 : List MemPlace} {v2 : Value} {d2 : DataW H} {p2 : List MemPlace} {v3 : Value} {d3 : DataW H} {p3 : List MemPlace} (hv0 : Value.okWide Tryz.prog W r b0 22 v0) (hv1 : Value.okWide Tryz.prog W r b0 22 v1) (hv2 : Value.okWide Tryz.prog W r b0 3 v2) (hv3 : Value.okWide Tryz.prog W r b0 3 v3) (h0 : DataW.Trod enc Tryz.prog w base spare held 22 v0 d0 p0) (h1 : DataW.Trod enc Tryz.prog w base spare held 22 v1 d1 p1) (h2 : DataW.Trod enc Tryz.prog w base spare held 3 v2 d2 p2) (h3 : DataW.Trod enc Tryz.prog w base spare held 3 v3 d3 p3) : Calls Tryz.prog 4 #[v0,v1,v2,v3] w fun e w'=>e = .returned (.bool true)∧Below w.heap.size w w' := by
  obtain ⟨x0,r0,o0⟩:=Zrc hv0 h0;obtain ⟨x1,r1,o1⟩:=Zrc hv1 h1;obtain ⟨x2,r2,o2⟩:=arg3 hv2 h2;obtain ⟨x3,r3,o3⟩:=arg3 hv3 h3;have hF : G4 [.one (.slice .no (Zl .i64 x0)),.one (.slice .no (Zl .i64 x1)),.one (.v (.int .i64 x2)),.one (.v (.int .i64 x3))] = some (bP true,[]):=Zua (partialMerges x0 x1 x2 x3 o0.1 o1.1);exact Zsv (v4 (G:=fun _=>none)) Zpd (fun _ _ h=>h) (ZhU r0 (ZhU r1 (ZhU r2 (ZhU r3 .nil)))) hF
end Go.Proofs.YtbjhgolpnjokbaaGreat
