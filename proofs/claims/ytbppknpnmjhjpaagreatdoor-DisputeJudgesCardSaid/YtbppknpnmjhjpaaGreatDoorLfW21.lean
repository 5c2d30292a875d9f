import Derived.Test.YtbppknpnmjhjpaaGreatDoorLfK
import Derived.Test.YtbppknpnmjhjpaaGreatDoorCode
import Derived.Test.YtbppknpnmjhjpaaGreatDoorBl
namespace Go.Proofs.YtbppknpnmjhjpaaGreatDoor
open Go.RowKit
open Go.Av
open Go.Lc
set_option maxRecDepth 100000
set_option linter.unusedSimpArgs false
set_option linter.unusedVariables false
set_option maxHeartbeats 4000000
theorem w87:Walk tt G [(78,K78.G),(88,K88.G),(147,K147.G)] (fun _=>[]) Tryz.f87 K87:=by
 refine .ak [(3,⟨[3,11,12,13],[34],[(3,none,34,1)]⟩),(6,⟨[3,5,11,12,13,18,19,20],[5,34],[]⟩),(13,⟨[3,11,12,13,39,40,41],[34],[]⟩)] true Tryz.ntmps87 fun T hO hT a0 x=>?_
 simp only[Zg] at hT; simp only[kS,nfs,ZcN,Zcy,X9,Zaa,Za5];refine au ?_
 intros; refine lpP 3 (fun⟨p64,p65⟩=>([(3,.one (.ms 34 0 0 (p65.length) 1)),(13,.one (.v (.int .i64 p64)))],[(34,⟨0,1,List.map Z2 p65,false,true⟩)])) ?_; rintro⟨p64,p65⟩ x; simp only[ZeP,Zcy,X9,Zaa,Za5]
 refine au ?_
 intros; refine lpP 6 (fun⟨p108,p109⟩=>([(3,.one (.ms 34 0 0 (p109.length) 1)),(20,.one (.v (.int .i64 p108)))],[(34,⟨0,1,List.map Z2 p109,false,true⟩)])) ?_; rintro⟨p108,p109⟩ x; simp only[ZkV,Zcy,X9,Zaa,Za5]
 refine au ?_
 intros; refine lpP 13 (fun⟨p123,p124⟩=>([(3,.one (.ms 34 0 0 (p124.length) 1)),(41,.one (.v (.int .i64 p123)))],[(34,⟨0,1,List.map Z2 p124,false,true⟩)])) ?_; rintro⟨p123,p124⟩ x; simp only[ZkU,Zcy,X9,Zaa,Za5]
 exact au
theorem w40:Walk tt G [(9,K9.G),(77,K77.G),(85,K85.G),(86,K86.G),(87,K87.G)] (fun _=>[]) Tryz.f40 K40:=by
 refine .ak [] false Tryz.ntmps40 fun T hO hT a0 x=>?_
 simp only[Zg] at hT; simp only[kS,nfs,Zhu];exact au
theorem w41:Walk tt G [(25,K25.G),(88,K88.G)] (fun _=>[]) Tryz.f41 K41:=by
 refine .ak [] false Tryz.ntmps41 fun T hO hT ⟨a0,a1⟩ x=>?_
 simp only[Zg] at hT; simp only[kS,nfs,Zer];exact auR
theorem w89:Walk tt G [(148,K148.G),(149,K149.G)] (fun _=>[]) Tryz.f89 K89:=by
 refine .ak [] false Tryz.ntmps89 fun T hO hT a0 x=>?_
 simp only[Zg] at hT; simp only[kS,nfs,Zes];exact au
theorem w42:Walk tt G [(25,K25.G),(89,K89.G)] (fun _=>[]) Tryz.f42 K42:=by
 refine .ak [] false Tryz.ntmps42 fun T hO hT a0 x=>?_
 simp only[Zg] at hT; simp only[kS,nfs,ZgR];exact au
theorem w43:Walk tt G [(38,K38.G)] (fun _=>[]) Tryz.f43 K43:=by
 refine .ak [(9,⟨[3,4,7,8,25,26,27],[3,4,7,39,45],[(8,none,45,1),(7,some 34,39,33)]⟩)] false Tryz.ntmps43 fun T hO hT ⟨a0,a1⟩ x=>?_
 simp only[Zg] at hT; simp only[kS,nfs,Zez,Zjf,Zga];refine au ?_
 intros; refine lpP 9 (fun⟨p13,p14,p15⟩=>([(8,.one (.ms 45 0 0 (p15.length) 1)),(27,.one (.v (.int .i64 p13)))],[(7,⟨0,35,[(.v (.int .i64 a0.1)) :: ((.v (.int .i64 a0.2.1)) :: ((arC .u8 a0.2.2.1)++((.ms 39 0 0 (p14.length) 33) :: [])))],false,false⟩),(39,⟨0,33,List.map eapi_Claim p14,false,true⟩),(45,⟨0,1,Zf .i64 p15,false,true⟩)])) ?_; rintro⟨p13,p14,p15⟩ x; simp only[Zma,Zjf,Zga]
 exact au
theorem w14:Walk tt G [(9,K9.G),(38,K38.G),(39,K39.G),(40,K40.G),(41,K41.G),(42,K42.G),(43,K43.G)] (fun _=>[]) Tryz.f14 K14:=by
 refine .ak [] false Tryz.ntmps14 fun T hO hT ⟨a0,a1,a2⟩ x=>?_
 simp only[Zg] at hT; simp only[kS,nfs,ZfM];exact au
theorem w15:Walk tt G [] (fun _=>[]) Tryz.f15 K15:=by
 refine .ak [(4,⟨[0,1,12,13],[],[]⟩)] false Tryz.ntmps15 fun T hO hT ⟨a0,a1⟩ x=>?_
 simp only[Zg] at hT; simp only[kS,nfs,ZcU,Lref16_SameInts_k1];refine au ?_
 intros; refine lpP 4 (fun p6=>([(13,.one (.v (.int .i64 p6)))],[])) ?_; rintro p6 x; simp only[ZeV,Lref16_SameInts_k1]
 exact au
end Go.Proofs.YtbppknpnmjhjpaaGreatDoor
