import Derived.Test.YtcfpmbefhfbdjaaGreatDoorLfK
import Derived.Test.YtcfpmbefhfbdjaaGreatDoorCode
import Derived.Test.YtcfpmbefhfbdjaaGreatDoorBl
namespace Go.Proofs.YtcfpmbefhfbdjaaGreatDoor
open Go.RowKit
open Go.Av
open Go.Lc
set_option maxRecDepth 100000
set_option linter.unusedSimpArgs false
set_option linter.unusedVariables false
set_option maxHeartbeats 4000000
theorem w6:Walk tt G [(9,K9.G),(11,K11.G),(17,K17.G),(18,K18.G),(19,K19.G),(20,K20.G)] (fun _=>[]) Tryz.f6 K6:=by
 refine .ak [(5,⟨[4,8,9,10,22,23,24],[4,20,41,46,50],[(8,none,41,32),(9,none,46,32),(10,none,50,2)]⟩)] false Tryz.ntmps6 fun T hO hT ⟨a0,a1⟩ x=>?_
 simp only[Zh] at hT; simp only[kS,nfs,Zes,ZfP];refine au ?_
 intros; refine lpP 5 (fun⟨p20,p21,p22,p23⟩=>([(8,.one (.ms 41 0 0 (p21.length) 32)),(9,.one (.ms 46 0 0 (p22.length) 32)),(10,.one (.ms 50 0 0 (p23.length) 2)),(24,.one (.v (.int .i64 p20)))],[(41,⟨0,32,List.map (arC .u8) p21,false,true⟩),(46,⟨0,32,List.map (arC .u8) p22,false,true⟩),(50,⟨0,2,List.map ZaL p23,false,true⟩)])) ?_; rintro⟨p20,p21,p22,p23⟩ x; simp only[ZhV,ZfP]
 exact au
theorem w10:Walk tt G [] (fun _=>[]) Tryz.f10 K10:=by
 refine .sk [] false Tryz.ntmps10 fun T hO hT ⟨a0,a1⟩ x hr=>?_
 simp only[Zh] at hT; simp only[kS,nfs] at hr ⊢;unfold ZhW at hr;refine go ?_;by_cases c1:(a0.length:Int)≤40
 ·have c1N:=nrm c1
  refine go ?_;exact fin hr
 ·have c1N:=nrm c1
  refine go ?_;exact fin hr
theorem w12:Walk tt G [(21,K21.G),(26,K26.G)] (fun _=>[]) Tryz.f12 K12:=by
 refine .ak [] false Tryz.ntmps12 fun T hO hT ⟨a0,a1⟩ x=>?_
 simp only[Zh] at hT; simp only[kS,nfs,Y7];exact au
theorem w28:Walk tt G [] (fun _=>[]) Tryz.f28 K28:=by
 refine .ak [(4,⟨[0,1,12,13],[],[]⟩)] false Tryz.ntmps28 fun T hO hT ⟨a0,a1⟩ x=>?_
 simp only[Zh] at hT; simp only[kS,nfs,X0,Lref07_SameHashes_k1];refine au ?_
 intros; refine lpP 4 (fun p6=>([(13,.one (.v (.int .i64 p6)))],[])) ?_; rintro p6 x; simp only[ZaW,Lref07_SameHashes_k1]
 exact au
theorem w13:Walk tt G [(28,K28.G)] (fun _=>[]) Tryz.f13 K13:=by
 refine .ak [] false Tryz.ntmps13 fun T hO hT ⟨a0,a1⟩ x=>?_
 simp only[Zh] at hT; simp only[kS,nfs,ZdZ];exact au
theorem w14:Walk tt G [(21,K21.G),(29,K29.G)] (fun _=>[]) Tryz.f14 K14:=by
 refine .ak [] false Tryz.ntmps14 fun T hO hT ⟨a0,a1⟩ x=>?_
 simp only[Zh] at hT; simp only[kS,nfs,Y8];exact au
theorem w15:Walk tt G [(11,K11.G),(12,K12.G),(14,K14.G)] (fun _=>[]) Tryz.f15 K15:=by
 refine .ak [] false Tryz.ntmps15 fun T hO hT ⟨a0,a1,a2⟩ x=>?_
 simp only[Zh] at hT; simp only[kS,nfs,Zac];exact au
end Go.Proofs.YtcfpmbefhfbdjaaGreatDoor
