import Derived.Test.YthpkpciceodioaaGreatDoorLfK
import Derived.Test.YthpkpciceodioaaGreatDoorCode
import Derived.Test.YthpkpciceodioaaGreatDoorBl
namespace Go.Proofs.YthpkpciceodioaaGreatDoor
open Go.RowKit
open Go.Av
open Go.Lc
set_option maxRecDepth 100000
set_option linter.unusedSimpArgs false
set_option linter.unusedVariables false
set_option maxHeartbeats 4000000
section
attribute [local simp] az64 bz4
theorem w49_7:Walk tt G [(88,K88.G),(89,K89.G),(90,K90.G),(91,K91.G)] (fun _=>[]) Tryz.f49 K49_7:=by
 refine .ak [(4,⟨[2,4,29,30,31],[2,4,15,18,23,26],[]⟩)] true Tryz.ntmps49 (hi:=by intro x; simp[E49_7]) (fun T hO hT ⟨a0,a1⟩ x=>?_);simp only[Zh] at hT; simp only[kS,E49_7,nfs,ZfV,ZiV];refine au ?_
 intros; refine lpP 4 (fun⟨p38,p39,p40,p41,p42⟩=>([(31,.one (.v (.int .i64 p38)))],[(2,⟨0,84,[(.v (.int .u32 a0.1.1.1)) :: ((arC .u8 a0.1.1.2.1)++((arC .u8 a0.1.1.2.2.1)++((.v (.int .u32 a0.1.1.2.2.2.1)) :: ((.v (.int .u32 a0.1.1.2.2.2.2.1)) :: ((.v (.int .u32 a0.1.1.2.2.2.2.2)) :: ((arC .u64 a0.1.2.1)++((.v (.int .i64 a0.1.2.2.1)) :: ((.v (.int .u32 a0.1.2.2.2.1)) :: ((.v (.int .u32 a0.1.2.2.2.2.1)) :: ((.v (.int .u32 a0.1.2.2.2.2.2.1)) :: ((.slice .no (List.map eapi_Checkpoint a0.1.2.2.2.2.2.2.1)) :: ((.v (.int .i64 a0.1.2.2.2.2.2.2.2.1)) :: ((.v (.int .i64 a0.1.2.2.2.2.2.2.2.2.1)) :: ((.v (.int .i64 a0.1.2.2.2.2.2.2.2.2.2)) :: ((.ms 15 0 0 (p39.length) 69) :: ((.ms 23 0 0 (p40.length) 34) :: ((.ms 26 0 0 (p41.length) 36) :: ((.ms 18 0 0 (p42.length) 1) :: []))))))))))))))))))],false,false⟩),(15,⟨0,69,List.map Yo p39,false,true⟩),(18,⟨0,1,List.map ZeP p42,false,true⟩),(23,⟨0,34,List.map Xj p40,false,true⟩),(26,⟨0,36,List.map YH p41,false,true⟩)])) ?_; rintro⟨p38,p39,p40,p41,p42⟩ x; simp only[ZiW,ZiV]
 exact au
end
section
attribute [local simp] az64 bz4
theorem w20:Walk tt G [(49,K49_7.G),(50,K50.G)] (fun d=>if d=8 then[[0,0,0,0,0,0,0,0,0,0,0,0,0,0,0,0,0,0,0,0,0,0,0,0,0,0,0,0,0,0,0,0,0,0,0,0,0,0,0,0,0,0,0,0,0,0,0,0,0,0,0,0,0,0,0,0,0,0,0,0,0,0,0,0,0,0,0,0,0,0,0,0,0,0,0,0,0,0,0,0,0,34,36]] else[]) Tryz.f20 K20:=by
 refine .ak [] true Tryz.ntmps20 fun T hO hT ⟨a0,a1⟩ x=>?_
 simp only[Zh] at hT; simp only[kS,nfs,ZbR];exact au
end
theorem w21:Walk tt G [] (fun _=>[]) Tryz.f21 K21:=by
 refine .ak [] false Tryz.ntmps21 fun T hO hT ⟨a0,a1⟩ x=>?_
 simp only[Zh] at hT; simp only[kS,nfs,Ze5];exact au
theorem w25:Walk tt G [] (fun _=>[]) Tryz.f25 K25:=by
 refine .ak [] false Tryz.ntmps25 fun T hO hT ⟨a0,a1⟩ x=>?_
 simp only[Zh] at hT; simp only[kS,nfs,Zbw];exact au
end Go.Proofs.YthpkpciceodioaaGreatDoor
