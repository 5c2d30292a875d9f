import Derived.Test.YthpkpciceodioaaGreatDoorLfV
import Derived.Test.YthpkpciceodioaaGreatDoorAvP3
import Derived.Test.YthpkpciceodioaaGreatDoorLcG6
import Derived.Test.YthpkpciceodioaaGreatDoorGl
import Derived.Test.YthpkpciceodioaaGreatDoorLcG6
import Derived.Test.YthpkpciceodioaaGreatDoorLcG6
namespace Go.Proofs.YthpkpciceodioaaGreatDoor
open Go.RowKit
open Go.Av
open Go.Lc
set_option maxRecDepth 100000
set_option linter.unusedVariables false
set_option linter.unusedSimpArgs false
variable {H:Type} {enc:TypeId×Value→H} {W w:World} {base b0:Nat} {spare:Nat→Bool} {held:Bool} {r:Reach} {v:Value} {d:DataW H} {ps:List MemPlace}
theorem ZjY {n:Nat} {cs:List Cell} (h:Z1 tt (n+1) 22 cs):∃ x:Int,cs=[.v (.int .u32 x)]∧(0≤x∧x≤4294967295):=by
  obtain ⟨x,rfl,hx⟩:=Z1.int h tt22 rfl;exact ⟨x,rfl,ZtD hx⟩
theorem Zsj {n:Nat} {cs:List Cell} (h:Z1 tt (n+2) 24 cs):∃ x:(Arr 32),cs=arC .u8 x∧Zhb x:=by
  obtain ⟨x,rfl,hx⟩:=Z1.arr h tt24 rfl tt5 rfl;exact ⟨x,rfl,fun a ha=>ZnO (hx a ha)⟩
theorem ty26 {n:Nat} {cs:List Cell} (h:Z1 tt (n+3) 26 cs):∃ x:Tapi_Header,cs=(.v (.int .u32 x.1)) :: ((arC .u8 x.2.1)++((arC .u8 x.2.2.1)++((.v (.int .u32 x.2.2.2.1)) :: ((.v (.int .u32 x.2.2.2.2.1)) :: ((.v (.int .u32 x.2.2.2.2.2)) :: [])))))∧ZjT x:=by
  obtain ⟨a0,_,rfl,h0,a1,_,rfl,h1,a2,_,rfl,h2,a3,_,rfl,h3,a4,_,rfl,h4,a5,_,rfl,h5,rfl⟩:=Z1.fs h tt26 rfl;obtain ⟨x0,rfl,o0⟩:=ZjY h0;obtain ⟨x1,rfl,o1⟩:=Zsj h1;obtain ⟨x2,rfl,o2⟩:=Zsj h2;obtain ⟨x3,rfl,o3⟩:=ZjY h3;obtain ⟨x4,rfl,o4⟩:=ZjY h4;obtain ⟨x5,rfl,o5⟩:=ZjY h5;exact ⟨(x0,x1,x2,x3,x4,x5),by simp,⟨o0,o1,o2,o3,o4,o5⟩⟩
theorem ty68 {n:Nat} {cs:List Cell} (h:Z1 tt (n+3) 68 cs):∃ x:Tapi_OutPoint,cs=(arC .u8 x.1)++((.v (.int .u32 x.2)) :: [])∧Zij x:=by
  obtain ⟨a0,_,rfl,h0,a1,_,rfl,h1,rfl⟩:=Z1.fs h tt68 rfl;obtain ⟨x0,rfl,o0⟩:=Zsj h0;obtain ⟨x1,rfl,o1⟩:=ZjY h1;exact ⟨(x0,x1),by simp,⟨o0,o1⟩⟩
theorem ty5 {n:Nat} {cs:List Cell} (h:Z1 tt (n+1) 5 cs):∃ x:Int,cs=[.v (.int .u8 x)]∧(0≤x∧x≤255):=by
  obtain ⟨x,rfl,hx⟩:=Z1.int h tt5 rfl;exact ⟨x,rfl,ZnO hx⟩
theorem ty32 {n:Nat} {cs:List Cell} (h:Z1 tt (n+2) 32 cs):∃ x:(List Int),cs=[.slice .no (Zd .u8 x)]∧ZiX x:=by
  obtain ⟨L,rfl,h2,h3⟩:=Z1.ints h tt32 rfl tt5 rfl;exact ⟨L,rfl,h2,fun a ha=>ZnO (h3 a ha)⟩
theorem ty39 {n:Nat} {cs:List Cell} (h:Z1 tt (n+3) 39 cs):∃ x:(List (List Int)),cs=[.slice .no (List.map ZJ x)]∧Zlf x:=by
  obtain ⟨L,rfl,h2,h3⟩:=Z1.row h tt39 rfl (f:=ZJ) (R:=fun a=>ZiX a) fun l hl=>by
    obtain ⟨a,rfl,ha⟩:=ty32 hl;exact ⟨a,by simp,ha⟩
  exact ⟨L,rfl,h2,h3⟩
theorem ty70 {n:Nat} {cs:List Cell} (h:Z1 tt (n+4) 70 cs):∃ x:Tapi_Input,cs=(arC .u8 x.1.1)++((.v (.int .u32 x.1.2)) :: ((.v (.int .u32 x.2.1)) :: ((.slice .no (List.map ZJ x.2.2)) :: [])))∧Zic x:=by
  obtain ⟨a0,_,rfl,h0,a1,_,rfl,h1,a2,_,rfl,h2,rfl⟩:=Z1.fs h tt70 rfl;obtain ⟨x0,rfl,o0⟩:=ty68 h0;obtain ⟨x1,rfl,o1⟩:=ZjY h1;obtain ⟨x2,rfl,o2⟩:=ty39 h2;exact ⟨(x0,x1,x2),by simp,⟨o0,o1,o2⟩⟩
theorem ty61 {n:Nat} {cs:List Cell} (h:Z1 tt (n+5) 61 cs):∃ x:(List Tapi_Input),cs=[.slice .no (List.map Zs x)]∧Zji x:=by
  obtain ⟨L,rfl,h2,h3⟩:=Z1.row h tt61 rfl (f:=Zs) (R:=fun a=>Zic a) fun l hl=>by
    obtain ⟨a,rfl,ha⟩:=ty70 hl;exact ⟨a,by simp,ha⟩
  exact ⟨L,rfl,h2,h3⟩
theorem ty2 {n:Nat} {cs:List Cell} (h:Z1 tt (n+1) 2 cs):∃ x:Int,cs=[.v (.int .i64 x)]∧(-9223372036854775808≤x∧x≤9223372036854775807):=by
  obtain ⟨x,rfl,hx⟩:=Z1.int h tt2 rfl;exact ⟨x,rfl,ZtC hx⟩
theorem ty66 {n:Nat} {cs:List Cell} (h:Z1 tt (n+3) 66 cs):∃ x:Tapi_Output,cs=[.v (.int .i64 x.1),.slice .no (Zd .u8 x.2)]∧ZhB x:=by
  obtain ⟨a0,_,rfl,h0,a1,_,rfl,h1,rfl⟩:=Z1.fs h tt66 rfl;obtain ⟨x0,rfl,o0⟩:=ty2 h0;obtain ⟨x1,rfl,o1⟩:=ty32 h1;exact ⟨(x0,x1),by simp,⟨o0,o1⟩⟩
theorem ty62 {n:Nat} {cs:List Cell} (h:Z1 tt (n+4) 62 cs):∃ x:(List Tapi_Output),cs=[.slice .no (List.map Zr x)]∧Ziw x:=by
  obtain ⟨L,rfl,h2,h3⟩:=Z1.row h tt62 rfl (f:=Zr) (R:=fun a=>ZhB a) fun l hl=>by
    obtain ⟨a,rfl,ha⟩:=ty66 hl;exact ⟨a,by simp,ha⟩
  exact ⟨L,rfl,h2,h3⟩
theorem ty64 {n:Nat} {cs:List Cell} (h:Z1 tt (n+6) 64 cs):∃ x:Tapi_Tx,cs=[.v (.int .u32 x.1),.slice .no (List.map Zs x.2.1),.slice .no (List.map Zr x.2.2.1),.v (.int .u32 x.2.2.2)]∧ZkS x:=by
  obtain ⟨a0,_,rfl,h0,a1,_,rfl,h1,a2,_,rfl,h2,a3,_,rfl,h3,rfl⟩:=Z1.fs h tt64 rfl;obtain ⟨x0,rfl,o0⟩:=ZjY h0;obtain ⟨x1,rfl,o1⟩:=ty61 h1;obtain ⟨x2,rfl,o2⟩:=ty62 h2;obtain ⟨x3,rfl,o3⟩:=ZjY h3;exact ⟨(x0,x1,x2,x3),by simp,⟨o0,o1,o2,o3⟩⟩
theorem ty27 {n:Nat} {cs:List Cell} (h:Z1 tt (n+7) 27 cs):∃ x:(List Tapi_Tx),cs=[.slice .no (List.map YD x)]∧Zls x:=by
  obtain ⟨L,rfl,h2,h3⟩:=Z1.row h tt27 rfl (f:=YD) (R:=fun a=>ZkS a) fun l hl=>by
    obtain ⟨a,rfl,ha⟩:=ty64 hl;exact ⟨a,by simp,ha⟩
  exact ⟨L,rfl,h2,h3⟩
theorem ty29 {n:Nat} {cs:List Cell} (h:Z1 tt (n+8) 29 cs):∃ x:Tapi_Block,cs=(.v (.int .u32 x.1.1)) :: ((arC .u8 x.1.2.1)++((arC .u8 x.1.2.2.1)++((.v (.int .u32 x.1.2.2.2.1)) :: ((.v (.int .u32 x.1.2.2.2.2.1)) :: ((.v (.int .u32 x.1.2.2.2.2.2)) :: ((.slice .no (List.map YD x.2)) :: []))))))∧Zkv x:=by
  obtain ⟨a0,_,rfl,h0,a1,_,rfl,h1,rfl⟩:=Z1.fs h tt29 rfl;obtain ⟨x0,rfl,o0⟩:=ty26 h0;obtain ⟨x1,rfl,o1⟩:=ty27 h1;exact ⟨(x0,x1),by simp,⟨o0,o1⟩⟩
theorem Zww (hv:Value.okWide Tryz.prog W r b0 29 v) (h:DataW.Trod enc Tryz.prog w base spare held 29 v d ps):∃ (x:Tapi_Block) (cs:Array Value),v = .agg cs∧Yn (fun b _=>b<w.heap.size) w ((.v (.int .u32 x.1.1)) :: ((arC .u8 x.1.2.1)++((arC .u8 x.1.2.2.1)++((.v (.int .u32 x.1.2.2.2.1)) :: ((.v (.int .u32 x.1.2.2.2.2.1)) :: ((.v (.int .u32 x.1.2.2.2.2.2)) :: ((.slice .no (List.map YD x.2)) :: []))))))) cs.toList∧Zkv x:=by
  obtain ⟨cells,cs,rfl,h1,h2⟩:=Zn6 htt 8 (by kernel_rfl) Tryz.underlying29 hv h;obtain ⟨x,rfl,hx⟩:=ty29 (n:=0) h2;exact ⟨x,cs,rfl,h1,hx⟩
theorem run3 {H:Type} {enc:TypeId×Value→H} {W w:World} {base b0:Nat} {spare:Nat→Bool} {held:Bool} {r:Reach} {v0:Value} {d0:DataW H} {p0:List MemPlace} (hL:laidMetH Tryz.prog laid2 w) (hv0:Value.okWide Tryz.prog W r b0 29 v0) (h0:DataW.Trod enc Tryz.prog w base spare held 29 v0 d0 p0):Calls Tryz.prog 3 #[v0] w fun e w'=>e = .returned (.bool true)∧Below w.heap.size w w' := by
  obtain ⟨x0,cs0,rfl,r0,o0⟩:=Zww hv0 h0;have hF:G3 [.agg ((.v (.int .u32 x0.1.1)) :: ((arC .u8 x0.1.2.1)++((arC .u8 x0.1.2.2.1)++((.v (.int .u32 x0.1.2.2.2.1)) :: ((.v (.int .u32 x0.1.2.2.2.2.1)) :: ((.v (.int .u32 x0.1.2.2.2.2.2)) :: ((.slice .no (List.map YD x0.2)) :: [])))))))]=some (bP true,[]):=Zwv (filterOf x0 (ZuV o0.2));exact Zuu v3 (Zqg hL) (fun _ _ h=>h) (ZrC r0 .nil) hF
end Go.Proofs.YthpkpciceodioaaGreatDoor
