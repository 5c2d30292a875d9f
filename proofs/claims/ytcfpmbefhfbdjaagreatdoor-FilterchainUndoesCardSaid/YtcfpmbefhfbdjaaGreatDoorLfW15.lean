import Derived.Test.YtcfpmbefhfbdjaaGreatDoorLfK
import Derived.Test.YtcfpmbefhfbdjaaGreatDoorCode
import Derived.Test.YtcfpmbefhfbdjaaGreatDoorBl
namespace Go.Proofs.YtcfpmbefhfbdjaaGreatDoor
open Go.RowKit
open Go.Av
open Go.Lc
set_option maxRecDepth 100000
set_option linter.unusedSimpArgs false
set_option linter.unusedVariables false
set_option maxHeartbeats 4000000
section
attribute [local simp] az64 bz4
theorem w45:Walk tt G [(46,K46.G),(83,K83.G),(84,K84.G),(85,K85.G)] (fun _=>[]) Tryz.f45 K45:=by
 refine .ak [(20,⟨[9,74,75,76],[9],[]⟩)] false Tryz.ntmps45 fun T hO hT ⟨a0,a1,a2,a3⟩ x=>?_
 simp only[Zh] at hT; simp only[kS,nfs,Zch,Lref14_Checkw_k1];refine au ?_
 intros; refine lpP 20 (fun p8=>([(76,.one (.v (.int .i64 p8)))],[])) ?_; rintro p8 x; simp only[Zhj,Lref14_Checkw_k1]
 exact au
end
theorem w88:Walk tt G [] (fun _=>[]) Tryz.f88 K88:=by
 refine .ak [] false Tryz.ntmps88 fun T hO hT a0 x=>?_
 simp only[Zh] at hT; simp only[kS,nfs,ZhL];exact au
section
attribute [local simp] az64 bz4
theorem w47:Walk tt G [(87,K87.G),(88,K88.G)] (fun _=>[]) Tryz.f47 K47:=by
 refine .ak [] false Tryz.ntmps47 fun T hO hT a0 x=>?_
 simp only[Zh] at hT; simp only[kS,nfs,Zek];exact au
end
theorem w48:Walk tt G [(20,K20.G),(89,K89.G)] (fun _=>[]) Tryz.f48 K48:=by
 refine .ak [] false Tryz.ntmps48 fun T hO hT a0 x=>?_
 simp only[Zh] at hT; simp only[kS,nfs,Zel];exact au
theorem w49:Walk tt G [(20,K20.G),(89,K89.G)] (fun _=>[]) Tryz.f49 K49:=by
 refine .ak [] false Tryz.ntmps49 fun T hO hT a0 x=>?_
 simp only[Zh] at hT; simp only[kS,nfs,Zem];exact au
section
attribute [local simp] az64 bz4
theorem w31:Walk tt G [(47,K47.G),(48,K48.G),(49,K49.G)] (fun _=>[]) Tryz.f31 K31:=by
 refine .ak [] true Tryz.ntmps31 fun T hO hT a0 x=>?_
 simp only[Zh] at hT; simp only[kS,nfs,Zfv];exact au
end
section
attribute [local simp] az64 bz4
theorem w30_1:Walk tt G [(43,K43.G),(44,K44.G),(45,K45.G),(46,K46.G)] (fun _=>[]) Tryz.f30 K30_1:=by
 refine .ak [(4,⟨[2,4,29,30,31],[2,4,15,18,23,26],[]⟩)] true Tryz.ntmps30 (hi:=by intro x; simp[E30_1]) (fun T hO hT ⟨a0,a1⟩ x=>?_);simp only[Zh] at hT; simp only[kS,E30_1,nfs,Zfy,Zil];refine au ?_
 intros; refine lpP 4 (fun⟨p38,p39,p40,p41,p42⟩=>([(31,.one (.v (.int .i64 p38)))],[(2,⟨0,84,[(.v (.int .u32 a0.1.1.1)) :: ((arC .u8 a0.1.1.2.1)++((arC .u8 a0.1.1.2.2.1)++((.v (.int .u32 a0.1.1.2.2.2.1)) :: ((.v (.int .u32 a0.1.1.2.2.2.2.1)) :: ((.v (.int .u32 a0.1.1.2.2.2.2.2)) :: ((arC .u64 a0.1.2.1)++((.v (.int .i64 a0.1.2.2.1)) :: ((.v (.int .u32 a0.1.2.2.2.1)) :: ((.v (.int .u32 a0.1.2.2.2.2.1)) :: ((.v (.int .u32 a0.1.2.2.2.2.2.1)) :: ((.slice .no (List.map eapi_Checkpoint a0.1.2.2.2.2.2.2.1)) :: ((.v (.int .i64 a0.1.2.2.2.2.2.2.2.1)) :: ((.v (.int .i64 a0.1.2.2.2.2.2.2.2.2.1)) :: ((.v (.int .i64 a0.1.2.2.2.2.2.2.2.2.2)) :: ((.ms 15 0 0 (p39.length) 69) :: ((.ms 23 0 0 (p40.length) 34) :: ((.ms 26 0 0 (p41.length) 36) :: ((.ms 18 0 0 (p42.length) 1) :: []))))))))))))))))))],false,false⟩),(15,⟨0,69,List.map YV p39,false,true⟩),(18,⟨0,1,List.map Zey p42,false,true⟩),(23,⟨0,34,List.map Xs p40,false,true⟩),(26,⟨0,36,List.map YI p41,false,true⟩)])) ?_; rintro⟨p38,p39,p40,p41,p42⟩ x; simp only[Zim,Zil]
 exact au
end
section
attribute [local simp] az64 bz4
theorem w17:Walk tt G [(30,K30_1.G),(31,K31.G)] (fun d=>if d=8 then[[0,0,0,0,0,0,0,0,0,0,0,0,0,0,0,0,0,0,0,0,0,0,0,0,0,0,0,0,0,0,0,0,0,0,0,0,0,0,0,0,0,0,0,0,0,0,0,0,0,0,0,0,0,0,0,0,0,0,0,0,0,0,0,0,0,0,0,0,0,0,0,0,0,0,0,0,0,0,0,0,0,34,36]] else[]) Tryz.f17 K17:=by
 refine .ak [] true Tryz.ntmps17 fun T hO hT ⟨a0,a1⟩ x=>?_
 simp only[Zh] at hT; simp only[kS,nfs,Zer];exact au
end
theorem w18:Walk tt G [] (fun _=>[]) Tryz.f18 K18:=by
 refine .ak [] false Tryz.ntmps18 fun T hO hT ⟨a0,a1⟩ x=>?_
 simp only[Zh] at hT; simp only[kS,nfs,Zgk];exact au
theorem w90:Walk tt G [(61,K61.G)] (fun _=>[]) Tryz.f90 K90:=by
 refine .ak [] true Tryz.ntmps90 fun T hO hT ⟨a0,a1⟩ x=>?_
 simp only[Zh] at hT; simp only[kS,nfs,Xt];exact au
theorem w50:Walk tt G [(63,K63.G),(90,K90.G)] (fun _=>[]) Tryz.f50 K50:=by
 refine .ak [] true Tryz.ntmps50 fun T hO hT a0 x=>?_
 simp only[Zh] at hT; simp only[kS,nfs,Xy];exact au
theorem w57:Walk tt G [(63,K63.G),(90,K90.G)] (fun _=>[]) Tryz.f57 K57:=by
 refine .ak [] true Tryz.ntmps57 fun T hO hT a0 x=>?_
 simp only[Zh] at hT; simp only[kS,nfs,Zew];exact au
theorem w92:Walk tt G [(39,K39.G),(40,K40.G),(57,K57.G),(63,K63.G),(64,K64.G)] (fun _=>[]) Tryz.f92 K92:=by
 refine .ak [(4,⟨[1,2,5,25,26,27],[2,16],[]⟩),(11,⟨[1,2,5,50,51,52],[2,16],[]⟩),(20,⟨[5,77,78,79],[16],[]⟩),(24,⟨[5,77,78,79,91,92,93],[16],[]⟩)] true Tryz.ntmps92 fun T hO hT ⟨a0,a1⟩ x=>?_
 simp only[Zh] at hT; simp only[kS,nfs,ZeI,Zcd,Zce,Za6,Za7];refine auA ?_
 intros; refine lpP 4 (fun⟨p16,p17⟩=>([(5,.one (.ms 16 0 0 (p17.length) 1)),(27,.one (.v (.int .i64 p16)))],[(16,⟨0,1,Zg .u8 p17,false,true⟩)])) ?_; rintro⟨p16,p17⟩ x; simp only[Ze0,Zcd,Zce,Za6,Za7]
 refine auA ?_
 intros; refine lpP 11 (fun⟨p37,p38⟩=>([(5,.one (.ms 16 0 0 (p38.length) 1)),(52,.one (.v (.int .i64 p37)))],[(16,⟨0,1,Zg .u8 p38,false,true⟩)])) ?_; rintro⟨p37,p38⟩ x; simp only[ZeZ,Zcd,Zce,Za6,Za7]
 refine auA ?_
 intros; refine lpP 20 (fun⟨p80,p81⟩=>([(5,.one (.ms 16 0 0 (p81.length) 1)),(79,.one (.v (.int .i64 p80)))],[(16,⟨0,1,Zg .u8 p81,false,true⟩)])) ?_; rintro⟨p80,p81⟩ x; simp only[ZeY,Zcd,Zce,Za6,Za7]
 refine auA ?_
 intros; refine lpP 24 (fun⟨p109,p110⟩=>([(5,.one (.ms 16 0 0 (p110.length) 1)),(93,.one (.v (.int .i64 p109)))],[(16,⟨0,1,Zg .u8 p110,false,true⟩)])) ?_; rintro⟨p109,p110⟩ x; simp only[Zdo,Zcd,Zce,Za6,Za7]
 exact auA
theorem w91:Walk tt G [(92,K92.G)] (fun _=>[]) Tryz.f91 K91:=by
 refine .ak [(4,⟨[1,20,21,22],[1],[]⟩),(10,⟨[1,37,38,39],[1],[]⟩),(15,⟨[1,37,38,39,48,49,50],[1],[]⟩)] false Tryz.ntmps91 fun T hO hT a0 x=>?_
 simp only[Zh] at hT; simp only[kS,nfs,Zha,ZdP,Zfi,ZdR];refine au ?_
 intros; refine lpP 4 (fun p4=>([(22,.one (.v (.int .i64 p4)))],[])) ?_; rintro p4 x; simp only[Zfk,ZdP,Zfi,ZdR]
 refine au ?_
 intros; refine lpP 10 (fun p19=>([(39,.one (.v (.int .i64 p19)))],[])) ?_; rintro p19 x; simp only[Zfj,ZdP,Zfi,ZdR]
 refine au ?_
 intros; refine lpP 15 (fun p31=>([(50,.one (.v (.int .i64 p31)))],[])) ?_; rintro p31 x; simp only[ZdQ,ZdP,Zfi,ZdR]
 exact au
theorem w51:Walk tt G [(91,K91.G),(92,K92.G)] (fun _=>[]) Tryz.f51 K51:=by
 refine .ak [] false Tryz.ntmps51 fun T hO hT ⟨a0,a1⟩ x=>?_
 simp only[Zh] at hT; simp only[kS,nfs,Zga];exact au
theorem w32:Walk tt G [(40,K40.G),(50,K50.G),(51,K51.G)] (fun _=>[]) Tryz.f32 K32:=by
 refine .ak [(5,⟨[4,22,23,24],[20],[]⟩)] false Tryz.ntmps32 fun T hO hT a0 x=>?_
 simp only[Zh] at hT; simp only[kS,nfs,Zdv,ZeL];refine au ?_
 intros; refine lpP 5 (fun⟨p11,p12⟩=>([(4,.one (.ms 20 0 0 (p12.length) 1)),(24,.one (.v (.int .i64 p11)))],[(20,⟨0,1,Zg .u8 p12,false,true⟩)])) ?_; rintro⟨p11,p12⟩ x; simp only[Zbs,ZeL]
 exact au
theorem w52:Walk tt G [] (fun _=>[]) Tryz.f52 K52:=by
 refine .ak [(3,⟨[3,6,7,8],[],[]⟩)] false Tryz.ntmps52 fun T hO hT a0 x=>?_
 simp only[Zh] at hT; simp only[kS,nfs,ZbS,ZhH];refine au ?_
 intros; refine lpP 3 (fun⟨p7,p8⟩=>([(3,.one (.v (.int .u64 p7))),(8,.one (.v (.int .i64 p8)))],[])) ?_; rintro⟨p7,p8⟩ x; simp only[ZfV,ZhH]
 exact au
theorem w33:Walk tt G [(52,K52.G)] (fun _=>[]) Tryz.f33 K33:=by
 refine .ak [] false Tryz.ntmps33 fun T hO hT a0 x=>?_
 simp only[Zh] at hT; simp only[kS,nfs,Zig];exact au
theorem w34:Walk tt G [(24,K24.G),(50,K50.G)] (fun _=>[]) Tryz.f34 K34:=by
 refine .ak [] false Tryz.ntmps34 fun T hO hT a0 x=>?_
 simp only[Zh] at hT; simp only[kS,nfs,Zfp];exact au
theorem w160:Walk tt G [] (fun _=>[]) Tryz.f160 K160:=by
 refine .ak [] false Tryz.ntmps160 fun T hO hT a0 x=>?_
 simp only[Zh] at hT; simp only[kS,nfs,XV];exact au
theorem w126:Walk tt G [(160,K160.G)] (fun _=>[]) Tryz.f126 K126:=by
 refine .ak [] false Tryz.ntmps126 fun T hO hT ⟨a0,a1⟩ x=>?_
 simp only[Zh] at hT; simp only[kS,nfs,Y5];exact au
theorem w93:Walk tt G [(126,K126.G)] (fun _=>[]) Tryz.f93 K93:=by
 refine .ak [(2,⟨[0,3],[],[]⟩)] false Tryz.ntmps93 fun T hO hT a0 x=>?_
 simp only[Zh] at hT; simp only[kS,nfs,Z9,Lslices_IsSorted_of__uint64_uint64_k1];refine au ?_
 intros; refine lpP 2 (fun p8=>([(3,.one (.v (.int .i64 p8)))],[])) ?_; rintro p8 x; simp only[ZN,Lslices_IsSorted_of__uint64_uint64_k1]
 exact au
theorem w127:Walk tt G [] (fun _=>[]) Tryz.f127 K127:=by
 refine .ak [] false Tryz.ntmps127 fun T hO hT a0 x=>?_
 simp only[Zh] at hT; simp only[kS,nfs,Zfm];exact Zh3
theorem w128:Walk tt G [] (fun _=>[]) Tryz.f128 K128:=by
 refine .ak [] true Tryz.ntmps128 fun T hO hT a0 x=>?_
 simp only[Zh] at hT; simp only[kS,nfs,Zfn];exact au
end Go.Proofs.YtcfpmbefhfbdjaaGreatDoor
