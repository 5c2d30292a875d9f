import Derived.Test.YthpkpciceodioaaGreatDoorLfK
import Derived.Test.YthpkpciceodioaaGreatDoorCode
import Derived.Test.YthpkpciceodioaaGreatDoorBl
namespace Go.Proofs.YthpkpciceodioaaGreatDoor
open Go.RowKit
open Go.Av
open Go.Lc
set_option maxRecDepth 100000
set_option linter.unusedSimpArgs false
set_option linter.unusedVariables false
set_option maxHeartbeats 4000000
theorem w11:Walk tt G [(14,K14.G),(35,K35.G),(36,K36.G),(37,K37.G),(38,K38.G)] (fun _=>[]) Tryz.f11 K11:=by
 refine .ak [] false Tryz.ntmps11 fun T hO hT a0 x=>?_
 simp only[Zh] at hT; simp only[kS,nfs,Zby];exact au
theorem w171:Walk tt G [] (fun _=>[]) Tryz.f171 K171:=by
 refine .ak [] false Tryz.ntmps171 fun T hO hT ⟨a0,a1⟩ x=>?_
 simp only[Zh] at hT; simp only[kS,nfs,Zgk];exact ZhX
theorem w172:Walk tt G [(171,K171.G)] (fun _=>[]) Tryz.f172 K172:=by
 refine .ak [(3,⟨[1,3,7,9,10],[3],[]⟩)] false Tryz.ntmps172 fun T hO hT ⟨a0,a1,a2⟩ x=>?_
 simp only[Zh] at hT; simp only[kS,nfs,Zda,Zf5,ZdR];refine au ?_
 intros; refine lpP 3 (fun⟨p7,p8⟩=>([(7,.one (.v (.int .u64 p7))),(10,.one (.v (.int .i64 p8)))],[])) ?_; rintro⟨p7,p8⟩ x; simp only[ZdS,Zf5,ZdR]
 exact au
theorem w120:Walk tt G [(157,K157.G),(171,K171.G),(172,K172.G)] (fun _=>[]) Tryz.f120 K120:=by
 refine .ak [(6,⟨[1,2,3,9],[3],[]⟩)] false Tryz.ntmps120 fun T hO hT ⟨a0,a1,a2⟩ x=>?_
 simp only[Zh] at hT; simp only[kS,nfs,ZcL,Zch];refine au ?_
 intros; refine lpP 6 (fun p7=>([(9,.one (.v (.int .i64 p7)))],[])) ?_; rintro p7 x; simp only[X0,Zch]
 exact au
theorem w121:Walk tt G [(157,K157.G),(172,K172.G)] (fun _=>[]) Tryz.f121 K121:=by
 refine .ak [] false Tryz.ntmps121 fun T hO hT ⟨a0,a1,a2⟩ x=>?_
 simp only[Zh] at hT; simp only[kS,nfs,Zih];exact au
theorem w84:Walk tt G [(120,K120.G),(121,K121.G)] (fun _=>[]) Tryz.f84 K84:=by
 refine .ak [(9,⟨[1,6,7,8,9,48,49],[6,46],[]⟩)] false Tryz.ntmps84 fun T hO hT ⟨a0,a1⟩ x=>?_
 simp only[Zh] at hT; simp only[kS,nfs,ZcM,Zel];refine au ?_
 intros; refine lpP 9 (fun⟨p9,p10,p11,p12⟩=>([(7,.one (.ms 46 0 0 (p12.length) 1)),(8,.one (.v (.int .u64 p9))),(9,.one (.v (.int .i64 p10))),(49,.one (.v (.int .i64 p11)))],[(46,⟨0,1,Zf .u64 p12,false,true⟩)])) ?_; rintro⟨p9,p10,p11,p12⟩ x; simp only[ZaX,Zel]
 exact au
theorem w122_6:Walk tt G [] (fun _=>[]) Tryz.f122 K122_6:=by
 refine .ak [] true Tryz.ntmps122 (hi:=by intro x; simp[E122_6]) (fun T hO hT a0 x=>?_);simp only[Zh] at hT; simp only[kS,E122_6,nfs,Ya];exact au
theorem w85:Walk tt G [(71,K71.G),(122,K122_6.G)] (fun d=>if d=32 then[[1]] else[]) Tryz.f85 K85:=by
 refine .ak [] false Tryz.ntmps85 fun T hO hT ⟨a0,a1,a2,a3⟩ x=>?_
 simp only[Zh] at hT; simp only[kS,nfs,Zb4];exact au
theorem w47:Walk tt G [(84,K84.G),(85,K85.G)] (fun _=>[]) Tryz.f47 K47:=by
 refine .ak [(9,⟨[12,15,39,40,41],[],[]⟩),(11,⟨[12,15,17,39,40,41],[],[]⟩)] false Tryz.ntmps47 fun T hO hT ⟨a0,a1,a2,a3,a4⟩ x=>?_
 simp only[Zh] at hT; simp only[kS,nfs,ZcS,Lgolomb_Matchw_k1,Zep];refine au ?_
 intros; refine lpP 9 (fun⟨p27,p28⟩=>([(15,.one (.v (.int .i64 p27))),(41,.one (.v (.int .i64 p28)))],[])) ?_; rintro⟨p27,p28⟩ x; simp only[Zeq,Lgolomb_Matchw_k1,Zep]
 refine au ?_
 intros; refine lpP 11 (fun p46=>([(15,.one (.v (.int .i64 p46)))],[])) ?_; rintro p46 x; simp only[Zj1,Lgolomb_Matchw_k1,Zep]
 exact au
theorem w18:Walk tt G [(36,K36.G),(47,K47.G)] (fun _=>[]) Tryz.f18 K18:=by
 refine .ak [(3,⟨[3,4,8,11,12,13],[3,4,23],[(8,none,23,1)]⟩)] false Tryz.ntmps18 fun T hO hT ⟨a0,a1,a2⟩ x=>?_
 simp only[Zh] at hT; simp only[kS,nfs,XX,Zer,Zck];refine au ?_
 intros; refine lpP 3 (fun⟨p8,p9⟩=>([(8,.one (.ms 23 0 0 (p9.length) 1)),(13,.one (.v (.int .i64 p8)))],[(23,⟨0,1,List.map YQ p9,false,true⟩)])) ?_; rintro⟨p8,p9⟩ x; simp only[Zes,Zer,Zck]
 exact au
theorem w24:Walk tt G [] (fun _=>[]) Tryz.f24 K24:=by
 refine .ak [] true Tryz.ntmps24 fun T hO hT a0 x=>?_
 simp only[Zh] at hT; simp only[kS,nfs,Xd];exact auR
theorem w212:Walk tt G [] (fun _=>[]) Tryz.f212 K212:=by
 refine .ak [] false Tryz.ntmps212 fun T hO hT a0 x=>?_
 simp only[Zh] at hT; simp only[kS,nfs,Zh0];exact au
theorem w175:Walk tt G [(24,K24.G),(212,K212.G)] (fun _=>[]) Tryz.f175 K175:=by
 refine .ak [] true Tryz.ntmps175 fun T hO hT ⟨a0,a1⟩ x=>?_
 simp only[Zh] at hT; simp only[kS,nfs,ZfT,ZeE];exact ZhX
theorem w146:Walk tt G [] (fun _=>[]) Tryz.f146 K146:=by
 refine .ak [(2,⟨[0,3],[5],[]⟩),(5,⟨[0,3,4],[5],[]⟩)] true Tryz.ntmps146 fun T hO hT a0 x=>?_
 simp only[Zh] at hT; simp only[kS,nfs,ZgD,Zhs,Zfm];refine au ?_
 intros; refine lpP 2 (fun p4=>([(3,.one (.ms 5 0 0 (p4.length) 1))],[(5,⟨0,1,Zf .u8 p4,false,true⟩)])) ?_; rintro p4 x; simp only[Zfn,Zhs,Zfm]
 refine au ?_
 intros; refine lpP 5 (fun⟨p12,p13⟩=>([(3,.one (.ms 5 0 0 (p13.length) 1)),(4,.one (.v (.int .i64 p12)))],[(5,⟨0,1,Zf .u8 p13,false,true⟩)])) ?_; rintro⟨p12,p13⟩ x; simp only[ZdA,Zhs,Zfm]
 exact au
theorem w147:Walk tt G [] (fun _=>[]) Tryz.f147 K147:=by
 refine .ak [] false Tryz.ntmps147 fun T hO hT _ x=>?_
 simp only[Zh] at hT; simp only[kS,nfs,Lref03_Initial];exact au
theorem w195:Walk tt G [(227,K227.G)] (fun _=>[]) Tryz.f195 K195:=by
 refine .ak [] false Tryz.ntmps195 fun T hO hT ⟨a0,a1⟩ x=>?_
 simp only[Zh] at hT; simp only[kS,nfs,YT];exact au
theorem w193:Walk tt G [(195,K195.G)] (fun _=>[]) Tryz.f193 K193:=by
 refine .ak [(3,⟨[1,2,3,4],[1,2,3],[]⟩),(7,⟨[2,3,5],[2,3],[]⟩)] false Tryz.ntmps193 fun T hO hT a0 x=>?_
 simp only[Zh] at hT; simp only[kS,nfs,ZbZ,ZdQ,ZaD];refine au ?_
 intros; refine lpP 3 (fun⟨p12,p13⟩=>([(4,.one (.v (.int .i64 p12)))],[(3,⟨0,64,[arC .u32 p13],false,false⟩)])) ?_; rintro⟨p12,p13⟩ x; simp only[ZbL,ZdQ,ZaD]
 refine au ?_
 intros; refine lpP 7 (fun⟨p38,p39⟩=>([(5,.one (.v (.int .i64 p38)))],[(3,⟨0,64,[arC .u32 p39],false,false⟩)])) ?_; rintro⟨p38,p39⟩ x; simp only[Lref03_schedule_s2,ZdQ,ZaD]
 exact au
theorem w194:Walk tt G [] (fun _=>[]) Tryz.f194 K194:=by
 refine .ak [] false Tryz.ntmps194 fun T hO hT _ x=>?_
 simp only[Zh] at hT; simp only[kS,nfs,Lref03_constants];exact au
end Go.Proofs.YthpkpciceodioaaGreatDoor
