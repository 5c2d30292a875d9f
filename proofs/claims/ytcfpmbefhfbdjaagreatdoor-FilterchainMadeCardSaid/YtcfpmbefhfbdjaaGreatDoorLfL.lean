import Derived.Test.YtcfpmbefhfbdjaaGreatDoorLfV
import Derived.Test.YtcfpmbefhfbdjaaGreatDoorAvP3
import Derived.Test.YtcfpmbefhfbdjaaGreatDoorLcG3
import Derived.Test.YtcfpmbefhfbdjaaGreatDoorGl
import Derived.Test.YtcfpmbefhfbdjaaGreatDoorLcG7
namespace Go.Proofs.YtcfpmbefhfbdjaaGreatDoor
open Go.RowKit
open Go.Av
open Go.Lc
set_option maxRecDepth 100000
set_option linter.unusedVariables false
set_option linter.unusedSimpArgs false
variable {H:Type}{enc:TypeId×Value→H}{W w:World}{base b0:Nat}{spare:Nat→Bool}{held:Bool}{r:Reach}{v:Value}{d:DataW H}{ps:List MemPlace}
theorem ty5 {n:Nat}{cs:List Cell}(h:ZY tt (n+1) 5 cs):∃ x:Int,cs=[.v (.int .u8 x)]∧(0≤x∧x≤255):=by
  obtain⟨x,rfl,hx⟩:=ZY.int h tt5 rfl;exact⟨x,rfl,ZsH hx⟩
theorem arg5 (hv:Value.okWide Tryz.prog W r b0 5 v) (h:DataW.Trod enc Tryz.prog w base spare held 5 v d ps):∃ x:Int,ZH (fun b _=>b<w.heap.size) w [.v (.int .u8 x)] [v]∧(0≤x∧x≤255):=by
  obtain⟨cells,h1,h2⟩:=ZtV htt 1 (by kernel_rfl) Tryz.underlying5 hv h;obtain⟨x,rfl,hx⟩:=ty5 (n:=0) h2;exact⟨x,h1,hx⟩
theorem ty22 {n:Nat}{cs:List Cell}(h:ZY tt (n+2) 22 cs):∃ x:(List Int),cs=[.slice .no (Zf .u8 x)]∧ZmQ x:=by
  obtain⟨L,rfl,h2,h3⟩:=ZY.ints h tt22 rfl tt5 rfl;exact⟨L,rfl,h2,fun a ha=>ZsH (h3 a ha)⟩
theorem Zxr (hv:Value.okWide Tryz.prog W r b0 22 v) (h:DataW.Trod enc Tryz.prog w base spare held 22 v d ps):∃ x:(List Int),ZH (fun b _=>b<w.heap.size) w [.slice .no (Zf .u8 x)] [v]∧ZmQ x:=by
  obtain⟨cells,h1,h2⟩:=Zrv htt 2 (by kernel_rfl) Tryz.underlying22 hv h;obtain⟨x,rfl,hx⟩:=ty22 (n:=0) h2;exact⟨x,h1,hx⟩
theorem ty3 {n:Nat}{cs:List Cell}(h:ZY tt (n+1) 3 cs):∃ x:Int,cs=[.v (.int .i64 x)]∧(-9223372036854775808≤x∧x≤9223372036854775807):=by
  obtain⟨x,rfl,hx⟩:=ZY.int h tt3 rfl;exact⟨x,rfl,Zvb hx⟩
theorem ty24 {n:Nat}{cs:List Cell}(h:ZY tt (n+3) 24 cs):∃ x:Tapi_Filter,cs=[.v (.int .i64 x.1),.slice .no (Zf .u8 x.2)]∧ZlM x:=by
  obtain⟨a0,_,rfl,h0,a1,_,rfl,h1,rfl⟩:=ZY.fs h tt24 rfl;obtain⟨x0,rfl,o0⟩:=ty3 h0;obtain⟨x1,rfl,o1⟩:=ty22 h1;exact⟨(x0,x1),by simp,⟨o0,o1⟩⟩
theorem Zxs (hv:Value.okWide Tryz.prog W r b0 24 v) (h:DataW.Trod enc Tryz.prog w base spare held 24 v d ps):∃ (x:Tapi_Filter) (cs:Array Value),v = .agg cs∧ZH (fun b _=>b<w.heap.size) w ([.v (.int .i64 x.1),.slice .no (Zf .u8 x.2)]) cs.toList∧ZlM x:=by
  obtain⟨cells,cs,rfl,h1,h2⟩:=Zqd htt 3 (by kernel_rfl) Tryz.underlying24 hv h;obtain⟨x,rfl,hx⟩:=ty24 (n:=0) h2;exact⟨x,cs,rfl,h1,hx⟩
theorem run3 {H:Type}{enc:TypeId×Value→H}{W w:World}{base b0:Nat}{spare:Nat→Bool}{held:Bool}{r:Reach}{v0:Value}{d0:DataW H}{p0:List MemPlace}{v1:Value}{d1:DataW H}{p1:List MemPlace}{v2:Value}{d2:DataW H}{p2:List MemPlace}(hL:laidMetH Tryz.prog laid2 w) (hv0:Value.okWide Tryz.prog W r b0 5 v0) (hv1:Value.okWide Tryz.prog W r b0 22 v1) (hv2:Value.okWide Tryz.prog W r b0 24 v2) (h0:DataW.Trod enc Tryz.prog w base spare held 5 v0 d0 p0) (h1:DataW.Trod enc Tryz.prog w base spare held 22 v1 d1 p1) (h2:DataW.Trod enc Tryz.prog w base spare held 24 v2 d2 p2):Calls Tryz.prog 3 #[v0,v1,v2] w fun e w'=>e = .returned (.bool true)∧Below w.heap.size w w' := by
  obtain⟨x0,r0,o0⟩:=arg5 hv0 h0;obtain⟨x1,r1,o1⟩:=Zxr hv1 h1;obtain⟨x2,cs2,rfl,r2,o2⟩:=Zxs hv2 h2;have hF:K3.G [.one (.v (.int .u8 x0)),.one (.slice .no (Zf .u8 x1)),.agg ([.v (.int .i64 x2.1),.slice .no (Zf .u8 x2.2)])]=some (bP true,[]):=K3.q3 (filterchainMade x0 x1 x2 o0 o1);exact Zv5 v3 (Zsu hL) (fun _ _ h=>h) (Zpo r0 (Zpo r1 (ZtU r2 .nil))) hF
end Go.Proofs.YtcfpmbefhfbdjaaGreatDoor
