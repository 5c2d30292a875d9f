import Derived.Test.YtbppknpnmjhjpaaGreatDoorLfV
import Derived.Test.YtbppknpnmjhjpaaGreatDoorAvP3
import Derived.Test.YtbppknpnmjhjpaaGreatDoorLcG4
import Derived.Test.YtbppknpnmjhjpaaGreatDoorGl
import Derived.Test.YtbppknpnmjhjpaaGreatDoorLcG7
namespace Go.Proofs.YtbppknpnmjhjpaaGreatDoor
open Go.RowKit
open Go.Av
open Go.Lc
set_option maxRecDepth 100000
set_option linter.unusedVariables false
set_option linter.unusedSimpArgs false
variable {H:Type}{enc:TypeId×Value→H}{W w:World}{base b0:Nat}{spare:Nat→Bool}{held:Bool}{r:Reach}{v:Value}{d:DataW H}{ps:List MemPlace}
theorem ty3 {n:Nat}{cs:List Cell}(h:ZY tt (n+1) 3 cs):∃ x:Int,cs=[.v (.int .i64 x)]∧(-9223372036854775808≤x∧x≤9223372036854775807):=by
  obtain⟨x,rfl,hx⟩:=ZY.int h tt3 rfl;exact⟨x,rfl,Zyu hx⟩
theorem ty23 {n:Nat}{cs:List Cell}(h:ZY tt (n+2) 23 cs):∃ x:(Arr 32),cs=arC .u8 x∧ZnD x:=by
  obtain⟨x,rfl,hx⟩:=ZY.arr h tt23 rfl tt5 rfl;exact⟨x,rfl,fun a ha=>Zsr (hx a ha)⟩
theorem ty59 {n:Nat}{cs:List Cell}(h:ZY tt (n+3) 59 cs):∃ x:Tapi_Claim,cs=(.v (.int .i64 x.1)) :: (arC .u8 x.2)∧ZmF x:=by
  obtain⟨a0,_,rfl,h0,a1,_,rfl,h1,rfl⟩:=ZY.fs h tt59 rfl;obtain⟨x0,rfl,o0⟩:=ty3 h0;obtain⟨x1,rfl,o1⟩:=ty23 h1;exact⟨(x0,x1),by simp,⟨o0,o1⟩⟩
theorem ty24 {n:Nat}{cs:List Cell}(h:ZY tt (n+4) 24 cs):∃ x:(List Tapi_Claim),cs=[.slice .no (List.map eapi_Claim x)]∧ZnS x:=by
  obtain⟨L,rfl,h2,h3⟩:=ZY.row h tt24 rfl (f:=eapi_Claim) (R:=fun a=>ZmF a) fun l hl=>by
    obtain⟨a,rfl,ha⟩:=ty59 hl;exact⟨a,by simp,ha⟩
  exact⟨L,rfl,h2,h3⟩
theorem ty26 {n:Nat}{cs:List Cell}(h:ZY tt (n+5) 26 cs):∃ x:Tapi_Dispute,cs=(.v (.int .i64 x.1)) :: ((.v (.int .i64 x.2.1)) :: ((arC .u8 x.2.2.1)++((.slice .no (List.map eapi_Claim x.2.2.2)) :: [])))∧ZnT x:=by
  obtain⟨a0,_,rfl,h0,a1,_,rfl,h1,a2,_,rfl,h2,a3,_,rfl,h3,rfl⟩:=ZY.fs h tt26 rfl;obtain⟨x0,rfl,o0⟩:=ty3 h0;obtain⟨x1,rfl,o1⟩:=ty3 h1;obtain⟨x2,rfl,o2⟩:=ty23 h2;obtain⟨x3,rfl,o3⟩:=ty24 h3;exact⟨(x0,x1,x2,x3),by simp,⟨o0,o1,o2,o3⟩⟩
theorem ZAJ (hv:Value.okWide Tryz.prog W r b0 26 v) (h:DataW.Trod enc Tryz.prog w base spare held 26 v d ps):∃ (x:Tapi_Dispute) (cs:Array Value),v = .agg cs∧ZP (fun b _=>b<w.heap.size) w ((.v (.int .i64 x.1)) :: ((.v (.int .i64 x.2.1)) :: ((arC .u8 x.2.2.1)++((.slice .no (List.map eapi_Claim x.2.2.2)) :: [])))) cs.toList∧ZnT x:=by
  obtain⟨cells,cs,rfl,h1,h2⟩:=Ztj htt 5 (by kernel_rfl) Tryz.underlying26 hv h;obtain⟨x,rfl,hx⟩:=ty26 (n:=0) h2;exact⟨x,cs,rfl,h1,hx⟩
theorem ty5 {n:Nat}{cs:List Cell}(h:ZY tt (n+1) 5 cs):∃ x:Int,cs=[.v (.int .u8 x)]∧(0≤x∧x≤255):=by
  obtain⟨x,rfl,hx⟩:=ZY.int h tt5 rfl;exact⟨x,rfl,Zsr hx⟩
theorem ZxX (hv:Value.okWide Tryz.prog W r b0 5 v) (h:DataW.Trod enc Tryz.prog w base spare held 5 v d ps):∃ x:Int,ZP (fun b _=>b<w.heap.size) w [.v (.int .u8 x)] [v]∧(0≤x∧x≤255):=by
  obtain⟨cells,h1,h2⟩:=Zxd htt 1 (by kernel_rfl) Tryz.underlying5 hv h;obtain⟨x,rfl,hx⟩:=ty5 (n:=0) h2;exact⟨x,h1,hx⟩
theorem ty27 {n:Nat}{cs:List Cell}(h:ZY tt (n+2) 27 cs):∃ x:(List Int),cs=[.slice .no (Zf .u8 x)]∧Zsk x:=by
  obtain⟨L,rfl,h2,h3⟩:=ZY.ints h tt27 rfl tt5 rfl;exact⟨L,rfl,h2,fun a ha=>Zsr (h3 a ha)⟩
theorem ZAK (hv:Value.okWide Tryz.prog W r b0 27 v) (h:DataW.Trod enc Tryz.prog w base spare held 27 v d ps):∃ x:(List Int),ZP (fun b _=>b<w.heap.size) w [.slice .no (Zf .u8 x)] [v]∧Zsk x:=by
  obtain⟨cells,h1,h2⟩:=ZuG htt 2 (by kernel_rfl) Tryz.underlying27 hv h;obtain⟨x,rfl,hx⟩:=ty27 (n:=0) h2;exact⟨x,h1,hx⟩
theorem run3 {H:Type}{enc:TypeId×Value→H}{W w:World}{base b0:Nat}{spare:Nat→Bool}{held:Bool}{r:Reach}{v0:Value}{d0:DataW H}{p0:List MemPlace}{v1:Value}{d1:DataW H}{p1:List MemPlace}{v2:Value}{d2:DataW H}{p2:List MemPlace}{v3:Value}{d3:DataW H}{p3:List MemPlace}{v4:Value}{d4:DataW H}{p4:List MemPlace}(hL:laidMetH Tryz.prog laid2 w) (hv0:Value.okWide Tryz.prog W r b0 26 v0) (hv1:Value.okWide Tryz.prog W r b0 5 v1) (hv2:Value.okWide Tryz.prog W r b0 27 v2) (hv3:Value.okWide Tryz.prog W r b0 5 v3) (hv4:Value.okWide Tryz.prog W r b0 5 v4) (h0:DataW.Trod enc Tryz.prog w base spare held 26 v0 d0 p0) (h1:DataW.Trod enc Tryz.prog w base spare held 5 v1 d1 p1) (h2:DataW.Trod enc Tryz.prog w base spare held 27 v2 d2 p2) (h3:DataW.Trod enc Tryz.prog w base spare held 5 v3 d3 p3) (h4:DataW.Trod enc Tryz.prog w base spare held 5 v4 d4 p4):Calls Tryz.prog 3 #[v0,v1,v2,v3,v4] w fun e w'=>e = .returned (.bool true)∧Below w.heap.size w w' := by
  obtain⟨x0,cs0,rfl,r0,o0⟩:=ZAJ hv0 h0;obtain⟨x1,r1,o1⟩:=ZxX hv1 h1;obtain⟨x2,r2,o2⟩:=ZAK hv2 h2;obtain⟨x3,r3,o3⟩:=ZxX hv3 h3;obtain⟨x4,r4,o4⟩:=ZxX hv4 h4;have hF:G3 [.agg ((.v (.int .i64 x0.1)) :: ((.v (.int .i64 x0.2.1)) :: ((arC .u8 x0.2.2.1)++((.slice .no (List.map eapi_Claim x0.2.2.2)) :: [])))),.one (.v (.int .u8 x1)),.one (.slice .no (Zf .u8 x2)),.one (.v (.int .u8 x3)),.one (.v (.int .u8 x4))]=some (bP true,[]):=ZAI (disputeJudges x0 x1 x2 x3 x4 o1 o2);exact Zzo Go.Proofs.YtbppknpnmjhjpaaGreatDoor.v3 (ZvJ hL) (fun _ _ h=>h) (Zxc r0 (Znw r1 (Znw r2 (Znw r3 (Znw r4 .nil))))) hF
end Go.Proofs.YtbppknpnmjhjpaaGreatDoor
