import Derived.Test.YtcfpmbefhfbdjaaGreatDoorLfK
import Derived.Test.YtcfpmbefhfbdjaaGreatDoorCode
import Derived.Test.YtcfpmbefhfbdjaaGreatDoorBl
namespace Go.Proofs.YtcfpmbefhfbdjaaGreatDoor
open Go.RowKit
open Go.Av
open Go.Lc
set_option maxRecDepth 100000
set_option linter.unusedSimpArgs false
set_option linter.unusedVariables false
set_option maxHeartbeats 4000000
theorem w6:Walk tt G [(9,K9.G),(11,K11.G),(17,K17.G),(18,K18.G),(19,K19.G),(20,K20.G)] (fun _=>[]) Tryz.f6 K6:=by
 refine .ak [(5,⟨[4,8,9,10,22,23,24],[4,20,41,46,50],[(8,none,41,32),(9,none,46,32),(10,none,50,2)]⟩)] false Tryz.ntmps6 fun T hO hT ⟨a0,a1⟩ x=>?_
 simp only[Zh] at hT; simp only[kS,nfs,Zel,ZfJ];refine au ?_
 intros; refine lpP 5 (fun⟨p20,p21,p22,p23⟩=>([(8,.one (.ms 41 0 0 (p21.length) 32)),(9,.one (.ms 46 0 0 (p22.length) 32)),(10,.one (.ms 50 0 0 (p23.length) 2)),(24,.one (.v (.int .i64 p20)))],[(41,⟨0,32,List.map (arC .u8) p21,false,true⟩),(46,⟨0,32,List.map (arC .u8) p22,false,true⟩),(50,⟨0,2,List.map X8 p23,false,true⟩)])) ?_; rintro⟨p20,p21,p22,p23⟩ x; simp only[ZhP,ZfJ]
 exact au
theorem w7:Walk tt G [(8,K8.G),(9,K9.G),(21,K21.G),(22,K22.G),(23,K23.G)] (fun _=>[]) Tryz.f7 K7:=by
 refine .ak [] false Tryz.ntmps7 fun T hO hT ⟨a0,a1,a2⟩ x=>?_
 simp only[Zh] at hT; simp only[kS,nfs,Yn];exact au
theorem w3:Walk tt G [(5,K5.G),(6,K6.G),(7,K7.G),(8,K8.G),(9,K9.G)] (fun _=>[]) Tryz.f3 K3:=by
 refine .ak [(8,⟨[5,7,8,10,33,34,35],[5,7,10],[]⟩)] false Tryz.ntmps3 fun T hO hT ⟨a0,a1,a2⟩ x=>?_
 simp only[Zh] at hT; simp only[kS,nfs,Zbx,Zay];refine au ?_
 intros; refine lpP 8 (fun⟨p21,p22⟩=>([(35,.one (.v (.int .i64 p21)))],[(10,⟨0,32,[arC .u8 p22],false,false⟩)])) ?_; rintro⟨p21,p22⟩ x; simp only[Zcm,Zay]
 exact au
end Go.Proofs.YtcfpmbefhfbdjaaGreatDoor
