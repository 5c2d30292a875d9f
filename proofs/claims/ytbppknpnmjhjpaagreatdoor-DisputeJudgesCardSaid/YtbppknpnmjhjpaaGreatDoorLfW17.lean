import Derived.Test.YtbppknpnmjhjpaaGreatDoorLfK
import Derived.Test.YtbppknpnmjhjpaaGreatDoorCode
import Derived.Test.YtbppknpnmjhjpaaGreatDoorBl
namespace Go.Proofs.YtbppknpnmjhjpaaGreatDoor
open Go.RowKit
open Go.Av
open Go.Lc
set_option maxRecDepth 100000
set_option linter.unusedSimpArgs false
set_option linter.unusedVariables false
set_option maxHeartbeats 4000000
theorem w181:Walk tt G [(211,K211.G)] (fun _=>[]) Tryz.f181 K181:=by
 refine .ak [(2,⟨[0,3],[7],[(0,none,1,1)]⟩),(5,⟨[0,3,4,5],[7,900004],[(4,none,900004,32)]⟩)] true Tryz.ntmps181 fun T hO hT a0 x=>?_
 simp only[Zg] at hT; simp only[kS,nfs,ZdI,Zfk,Zfl,Zdg];refine au ?_
 intros; refine lpP 2 (fun⟨p51,p52⟩=>([(0,.one (.slice .no (List.map (arC .u8) p51))),(3,.one (.ms 7 0 0 (p52.length) 1))],[(7,⟨0,1,List.map Zg2 p52,false,true⟩)])) ?_; rintro⟨p51,p52⟩ x; simp only[Lmerkle_levels_s1,Zfk,Zfl,Zdg]
 refine au ?_
 intros; refine lpP 5 (fun⟨p91,p92⟩=>([(4,.one (.ms 900004 0 0 (p92.length) 32)),(5,.one (.v (.int .i64 p91)))],[(900004,⟨0,32,List.map (arC .u8) p92,false,true⟩)])) ?_; rintro⟨p91,p92⟩ x; simp only[Zfm,Zfk,Zfl,Zdg]
 exact au
theorem w135:Walk tt G [(181,K181.G)] (fun _=>[]) Tryz.f135 K135:=by
 refine .ak [] false Tryz.ntmps135 fun T hO hT a0 x=>?_
 simp only[Zg] at hT; simp only[kS,nfs,ZfK];exact au
theorem w74:Walk tt G [(134,K134.G),(135,K135.G)] (fun _=>[]) Tryz.f74 K74:=by
 refine .ak [(3,⟨[2,3,6,7,8],[2,16],[(3,none,16,32)]⟩)] false Tryz.ntmps74 fun T hO hT a0 x=>?_
 simp only[Zg] at hT; simp only[kS,nfs,ZgZ,Zic];refine au ?_
 intros; refine lpP 3 (fun⟨p8,p9⟩=>([(3,.one (.ms 16 0 0 (p9.length) 32)),(8,.one (.v (.int .i64 p8)))],[(16,⟨0,32,List.map (arC .u8) p9,false,true⟩)])) ?_; rintro⟨p8,p9⟩ x; simp only[Zid,Zic]
 exact au
theorem w36:Walk tt G [(27,K27.G),(67,K67.G),(72,K72.G),(73,K73.G),(74,K74.G)] (fun _=>[]) Tryz.f36 K36:=by
 refine .ak [(7,⟨[1,24,25,26],[1],[]⟩),(13,⟨[1,38,39,40],[1],[]⟩)] false Tryz.ntmps36 fun T hO hT a0 x=>?_
 simp only[Zg] at hT; simp only[kS,nfs,ZfL,ZcS,ZcT];refine au ?_
 intros; refine lpP 7 (fun p7=>([(26,.one (.v (.int .i64 p7)))],[])) ?_; rintro p7 x; simp only[Zhj,ZcS,ZcT]
 refine au ?_
 intros; refine lpP 13 (fun p15=>([(40,.one (.v (.int .i64 p15)))],[])) ?_; rintro p15 x; simp only[Zhi,ZcS,ZcT]
 exact au
theorem w37:Walk tt G [(35,K35.G)] (fun _=>[]) Tryz.f37 K37:=by
 refine .ak [(8,⟨[2,3,4,7,8,23,24,25],[2,3,4,36,41],[(7,none,36,33),(8,none,41,1)]⟩)] false Tryz.ntmps37 fun T hO hT ⟨a0,a1⟩ x=>?_
 simp only[Zg] at hT; simp only[kS,nfs,Zay,ZeT,ZeU];refine au ?_
 intros; refine lpP 8 (fun⟨p13,p14,p15⟩=>([(7,.one (.ms 36 0 0 (p14.length) 33)),(8,.one (.ms 41 0 0 (p15.length) 1)),(25,.one (.v (.int .i64 p13)))],[(36,⟨0,33,List.map eapi_Claim p14,false,true⟩),(41,⟨0,1,Zf .i64 p15,false,true⟩)])) ?_; rintro⟨p13,p14,p15⟩ x; simp only[ZhE,ZeT,ZeU]
 exact au
theorem w13:Walk tt G [(10,K10.G),(11,K11.G),(12,K12.G),(29,K29.G),(35,K35.G),(36,K36.G),(37,K37.G)] (fun _=>[]) Tryz.f13 K13:=by
 refine .ak [] false Tryz.ntmps13 fun T hO hT ⟨a0,a1,a2⟩ x=>?_
 simp only[Zg] at hT; simp only[kS,nfs,ZdJ];exact au
theorem w75:Walk tt G [] (fun _=>[]) Tryz.f75 K75:=by
 refine .sk [] false Tryz.ntmps75 fun T hO hT ⟨a0,a1⟩ x hr=>?_
 simp only[Zg] at hT; simp only[kS,nfs] at hr ⊢;unfold ZiN at hr;refine go ?_;by_cases c1:0≤a0
 ·by_cases c2:a0<a1
  ·refine go ?_
   exact fin hr
  ·refine go ?_
   exact fin hr
 ·refine go ?_
  exact fin hr
theorem w76:Walk tt G [] (fun _=>[]) Tryz.f76 K76:=by
 refine .sk [(4,⟨[0,8,9],[],[]⟩)] false Tryz.ntmps76 fun T hO hT a0 x hr=>?_
 simp only[Zg] at hT; simp only[kS,nfs] at hr ⊢;unfold Zey at hr;refine go ?_;by_cases c19:64<(a0.length:Int)
 ·have c19N:=nrm c19
  replace hr:=ifP hr
  refine go ?_;exact fin hr
 ·have c19N:=nrm c19
  replace hr:=ifN hr
  refine go ?_;refine lp 4 (fun(p10:Int)=>⟨([.one (.slice .no (List.map eapi_Claim a0))]++(und 7++([.one (.v (.int .i64 (a0.length:Int))),.one (.v (.int .i64 p10))]++(und 27))):List PV),([]:Boxes)⟩) hr ?_;rintro p10 x32r hr32
  simp only[Zca] at hr32;refine nst ?_;refine go ?_;by_cases c33:p10<(a0.length:Int)
  ·have c33N:=nrm c33
   replace hr32:=ifP hr32
   refine go ?_;obtain⟨x34,⟨_,_,_⟩,hr32⟩:=bI hr32;by_cases c35:x34.1<0
   ·replace hr32:=Zoh hr32
    obtain⟨_,hz36,hr32⟩:=bs hr32;obtain rfl:=Option.some.inj hz36;refine go ?_
    replace hr32:=ifP hr32
    refine go ?_;exact fin hr32
   ·replace hr32:=Zpv hr32
    obtain⟨_,hz37,hr32⟩:=bs hr32;by_cases c38:0<p10
    ·replace hz37:=Zoh hz37
     obtain⟨_,hz39,hz37⟩:=bs hz37;obtain⟨x40,⟨_,_,_⟩,hz39⟩:=bI hz39;obtain rfl:=Option.some.inj hz39;obtain rfl:=Option.some.inj hz37;refine go ?_;by_cases c41:x34.1≤x40.1
     ·replace hr32:=ifP hr32
      refine go ?_;exact fin hr32
     ·replace hr32:=ifN hr32
      refine go ?_;exact bk hr32
    ·replace hz37:=Zpv hz37
     obtain⟨_,hz42,hz37⟩:=bs hz37;obtain rfl:=Option.some.inj hz42;obtain rfl:=Option.some.inj hz37;refine go ?_
     replace hr32:=ifN hr32
     refine go ?_;exact bk hr32
  ·have c33N:=nrm c33
   replace hr32:=ifN hr32
   refine go ?_;obtain⟨r43,q43,rfl⟩:=ms hr32;refine go ?_;rintro rfl
   refine go ?_;unfold Lref22_claims_k1 at q43;refine go ?_;exact fin q43
theorem w38:Walk tt G [(75,K75.G),(76,K76.G)] (fun _=>[]) Tryz.f38 K38:=by
 refine .ak [] false Tryz.ntmps38 fun T hO hT a0 x=>?_
 simp only[Zg] at hT; simp only[kS,nfs,Zea];exact au
theorem w185:Walk tt G [] (fun _=>[]) Tryz.f185 K185:=by
 refine .ak [] false Tryz.ntmps185 fun T hO hT ⟨a0,a1⟩ x=>?_
 simp only[Zg] at hT; simp only[kS,nfs,ZgQ];exact au
end Go.Proofs.YtbppknpnmjhjpaaGreatDoor
