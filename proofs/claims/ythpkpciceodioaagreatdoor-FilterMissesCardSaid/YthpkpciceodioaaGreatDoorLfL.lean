import Derived.Test.YthpkpciceodioaaGreatDoorLfV
import Derived.Test.YthpkpciceodioaaGreatDoorAvP3
import Derived.Test.YthpkpciceodioaaGreatDoorLcG6
import Derived.Test.YthpkpciceodioaaGreatDoorGl
import Derived.Test.YthpkpciceodioaaGreatDoorLcG7
namespace Go.Proofs.YthpkpciceodioaaGreatDoor
open Go.RowKit
open Go.Av
open Go.Lc
set_option maxRecDepth 100000
set_option linter.unusedVariables false
set_option linter.unusedSimpArgs false
variable {H:Type}{enc:TypeId×Value→H}{W w:World}{base b0:Nat}{spare:Nat→Bool}{held:Bool}{r:Reach}{v:Value}{d:DataW H}{ps:List MemPlace}
theorem ty5 {n:Nat}{cs:List Cell}(h:Yl tt (n+1) 5 cs):∃ x:Int,cs=[.v (.int .u8 x)]∧(0≤x∧x≤255):=by
  obtain⟨x,rfl,hx⟩:=Yl.int h tt5 rfl;exact⟨x,rfl,Zum hx⟩
theorem arg5 (hv:Value.okWide Tryz.prog W r b0 5 v) (h:DataW.Trod enc Tryz.prog w base spare held 5 v d ps):∃ x:Int,ZS (fun b _=>b<w.heap.size) w [.v (.int .u8 x)] [v]∧(0≤x∧x≤255):=by
  obtain⟨cells,h1,h2⟩:=Zvb htt 1 (by kernel_rfl) Tryz.underlying5 hv h;obtain⟨x,rfl,hx⟩:=ty5 (n:=0) h2;exact⟨x,h1,hx⟩
theorem ty32 {n:Nat}{cs:List Cell}(h:Yl tt (n+2) 32 cs):∃ x:(List Int),cs=[.slice .no (Zf .u8 x)]∧ZqB x:=by
  obtain⟨L,rfl,h2,h3⟩:=Yl.ints h tt32 rfl tt5 rfl;exact⟨L,rfl,h2,fun a ha=>Zum (h3 a ha)⟩
theorem Zv7 (hv:Value.okWide Tryz.prog W r b0 32 v) (h:DataW.Trod enc Tryz.prog w base spare held 32 v d ps):∃ x:(List Int),ZS (fun b _=>b<w.heap.size) w [.slice .no (Zf .u8 x)] [v]∧ZqB x:=by
  obtain⟨cells,h1,h2⟩:=ZsM htt 2 (by kernel_rfl) Tryz.underlying32 hv h;obtain⟨x,rfl,hx⟩:=ty32 (n:=0) h2;exact⟨x,h1,hx⟩
theorem run6 {H:Type}{enc:TypeId×Value→H}{W w:World}{base b0:Nat}{spare:Nat→Bool}{held:Bool}{r:Reach}{v0:Value}{d0:DataW H}{p0:List MemPlace}{v1:Value}{d1:DataW H}{p1:List MemPlace}{v2:Value}{d2:DataW H}{p2:List MemPlace}(hL:laidMetH Tryz.prog laid2 w) (hv0:Value.okWide Tryz.prog W r b0 5 v0) (hv1:Value.okWide Tryz.prog W r b0 32 v1) (hv2:Value.okWide Tryz.prog W r b0 32 v2) (h0:DataW.Trod enc Tryz.prog w base spare held 5 v0 d0 p0) (h1:DataW.Trod enc Tryz.prog w base spare held 32 v1 d1 p1) (h2:DataW.Trod enc Tryz.prog w base spare held 32 v2 d2 p2):Calls Tryz.prog 6 #[v0,v1,v2] w fun e w'=>e = .returned (.bool true)∧Below w.heap.size w w' := by
  obtain⟨x0,r0,o0⟩:=arg5 hv0 h0;obtain⟨x1,r1,o1⟩:=Zv7 hv1 h1;obtain⟨x2,r2,o2⟩:=Zv7 hv2 h2;have hF:G6 [.one (.v (.int .u8 x0)),.one (.slice .no (Zf .u8 x1)),.one (.slice .no (Zf .u8 x2))]=some (bP true,[]):=Zzb (Zo3 x0 x1 x2 o0 o1 o2.2);exact ZxB v6 (ZtO hL) (fun _ _ h=>h) (ZnL r0 (ZnL r1 (ZnL r2 .nil))) hF
end Go.Proofs.YthpkpciceodioaaGreatDoor
