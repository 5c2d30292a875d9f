import Derived.Test.YtbppknpnmjhjpaaGreatDoorLfV
import Derived.Test.YtbppknpnmjhjpaaGreatDoorAvP3
import Derived.Test.YtbppknpnmjhjpaaGreatDoorLcG4
import Derived.Test.YtbppknpnmjhjpaaGreatDoorGl
import Derived.Test.YtbppknpnmjhjpaaGreatDoorLcG7
namespace Go.Proofs.YtbppknpnmjhjpaaGreatDoor
open Go.RowKit
open Go.Av
open Go.Lc
set_option maxRecDepth 100000
set_option linter.unusedVariables false
set_option linter.unusedSimpArgs false
variable {H:Type}{enc:TypeId×Value→H}{W w:World}{base b0:Nat}{spare:Nat→Bool}{held:Bool}{r:Reach}{v:Value}{d:DataW H}{ps:List MemPlace}
theorem ty5 {n:Nat}{cs:List Cell}(h:Yo tt (n+1) 5 cs):∃ x:Int,cs=[.v (.int .u8 x)]∧(0≤x∧x≤255):=by
  obtain⟨x,rfl,hx⟩:=Yo.int h tt5 rfl;exact⟨x,rfl,ZuR hx⟩
theorem arg5 (hv:Value.okWide Tryz.prog W r b0 5 v) (h:DataW.Trod enc Tryz.prog w base spare held 5 v d ps):∃ x:Int,ZU (fun b _=>b<w.heap.size) w [.v (.int .u8 x)] [v]∧(0≤x∧x≤255):=by
  obtain⟨cells,h1,h2⟩:=Zwc htt 1 (by kernel_rfl) Tryz.underlying5 hv h;obtain⟨x,rfl,hx⟩:=ty5 (n:=0) h2;exact⟨x,h1,hx⟩
theorem ty27 {n:Nat}{cs:List Cell}(h:Yo tt (n+2) 27 cs):∃ x:(List Int),cs=[.slice .no (Zg .u8 x)]∧Zrl x:=by
  obtain⟨L,rfl,h2,h3⟩:=Yo.ints h tt27 rfl tt5 rfl;exact⟨L,rfl,h2,fun a ha=>ZuR (h3 a ha)⟩
theorem Zud (hv:Value.okWide Tryz.prog W r b0 27 v) (h:DataW.Trod enc Tryz.prog w base spare held 27 v d ps):∃ x:(List Int),ZU (fun b _=>b<w.heap.size) w [.slice .no (Zg .u8 x)] [v]∧Zrl x:=by
  obtain⟨cells,h1,h2⟩:=ZtA htt 2 (by kernel_rfl) Tryz.underlying27 hv h;obtain⟨x,rfl,hx⟩:=ty27 (n:=0) h2;exact⟨x,h1,hx⟩
theorem run4 {H:Type}{enc:TypeId×Value→H}{W w:World}{base b0:Nat}{spare:Nat→Bool}{held:Bool}{r:Reach}{v0:Value}{d0:DataW H}{p0:List MemPlace}{v1:Value}{d1:DataW H}{p1:List MemPlace}{v2:Value}{d2:DataW H}{p2:List MemPlace}{v3:Value}{d3:DataW H}{p3:List MemPlace}{v4:Value}{d4:DataW H}{p4:List MemPlace}(hL:laidMetH Tryz.prog laid2 w) (hv0:Value.okWide Tryz.prog W r b0 5 v0) (hv1:Value.okWide Tryz.prog W r b0 27 v1) (hv2:Value.okWide Tryz.prog W r b0 27 v2) (hv3:Value.okWide Tryz.prog W r b0 27 v3) (hv4:Value.okWide Tryz.prog W r b0 5 v4) (h0:DataW.Trod enc Tryz.prog w base spare held 5 v0 d0 p0) (h1:DataW.Trod enc Tryz.prog w base spare held 27 v1 d1 p1) (h2:DataW.Trod enc Tryz.prog w base spare held 27 v2 d2 p2) (h3:DataW.Trod enc Tryz.prog w base spare held 27 v3 d3 p3) (h4:DataW.Trod enc Tryz.prog w base spare held 5 v4 d4 p4):Calls Tryz.prog 4 #[v0,v1,v2,v3,v4] w fun e w'=>e = .returned (.bool true)∧Below w.heap.size w w' := by
  obtain⟨x0,r0,o0⟩:=arg5 hv0 h0;obtain⟨x1,r1,o1⟩:=Zud hv1 h1;obtain⟨x2,r2,o2⟩:=Zud hv2 h2;obtain⟨x3,r3,o3⟩:=Zud hv3 h3;obtain⟨x4,r4,o4⟩:=arg5 hv4 h4;have hF:G4 [.one (.v (.int .u8 x0)),.one (.slice .no (Zg .u8 x1)),.one (.slice .no (Zg .u8 x2)),.one (.slice .no (Zg .u8 x3)),.one (.v (.int .u8 x4))]=some (bP true,[]):=ZzR (disputeHonest x0 x1 x2 x3 x4 o0 o1 o2 o3 o4);exact Zys Go.Proofs.YtbppknpnmjhjpaaGreatDoor.v4 (ZuF hL) (fun _ _ h=>h) (Zlb r0 (Zlb r1 (Zlb r2 (Zlb r3 (Zlb r4 .nil))))) hF
end Go.Proofs.YtbppknpnmjhjpaaGreatDoor
