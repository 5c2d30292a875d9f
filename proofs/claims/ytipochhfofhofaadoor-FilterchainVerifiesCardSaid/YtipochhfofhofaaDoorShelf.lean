import Derived.Shelf.Spec.SlicesGrow
import Derived.Test.YtipochhfofhofaaDoorProg
namespace Go.Proofs
open Go.Shelf
def Tryd.lays8_ren : Go.Shelf.Ren := ⟨fun | 4 => 50 | n => n, fun | 22 => 43 | 25 => 5 | n => n, fun | n => n⟩
theorem Tryd.lays8 : Go.Proofs.Lays8.n4 Tryd.prog Tryd.lays8_ren := {
  mixed := by kernel_rfl
  f4 := ⟨Tryd.f50.name, by kernel_rfl, Tryd.func50.trans (congrArg some (by kernel_rfl))⟩
  t0 := Tryd.underlying0
  a0 := Tryd.isAgg0
  z0 := Tryd.sizeOf0
  v0 := Tryd.zeroValue0
  t3 := Tryd.underlying3
  a3 := Tryd.isAgg3
  z3 := Tryd.sizeOf3
  v3 := Tryd.zeroValue3
  t4 := Tryd.underlying4
  a4 := Tryd.isAgg4
  z4 := Tryd.sizeOf4
  v4 := Tryd.zeroValue4
  t9 := Tryd.underlying9
  a9 := Tryd.isAgg9
  z9 := Tryd.sizeOf9
  v9 := Tryd.zeroValue9
  t20 := Tryd.underlying20
  a20 := Tryd.isAgg20
  z20 := Tryd.sizeOf20
  v20 := Tryd.zeroValue20
  t22 := Tryd.underlying43
  a22 := Tryd.isAgg43
  z22 := Tryd.sizeOf43
  v22 := Tryd.zeroValue43 }
end Go.Proofs
