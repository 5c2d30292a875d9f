import Derived.Test.YtcfpmbefhfbdjaaGreatDoorLfK
import Derived.Test.YtcfpmbefhfbdjaaGreatDoorCode
import Derived.Test.YtcfpmbefhfbdjaaGreatDoorBl
namespace Go.Proofs.YtcfpmbefhfbdjaaGreatDoor
open Go.RowKit
open Go.Av
open Go.Lc
set_option maxRecDepth 100000
set_option linter.unusedSimpArgs false
set_option linter.unusedVariables false
set_option maxHeartbeats 4000000
theorem w142:Walk tt G [(59,K59.G),(172,K172.G),(173,K173.G),(174,K174.G),(175,K175.G)] (fun _=>[]) Tryz.f142 K142:=by
 refine .ak [(4,⟨[1,2,5,24,25,26],[2,900005],[(5,none,900005,0),(5,none,900005,1)]⟩),(10,⟨[1,2,5,46,47,48],[2,44],[]⟩),(16,⟨[1,5,62,63,64],[900005],[(5,none,900005,0),(5,none,900005,1)]⟩),(21,⟨[1,5,62,63,64,77,78,79],[900005],[(5,none,900005,0),(5,none,900005,1)]⟩)] true Tryz.ntmps142 fun T hO hT ⟨a0,a1⟩ x=>?_
 simp only[Zh] at hT; simp only[kS,nfs,Zal,YX,Zaq,XL,XM];refine au ?_
 intros; refine lpP 4 (fun⟨p13,p14⟩=>([(5,.one (.ms 900005 0 0 (p14.length) 1)),(26,.one (.v (.int .i64 p13)))],[(900005,⟨0,1,Zg .u8 p14,false,true⟩)])) ?_; rintro⟨p13,p14⟩ x; simp only[ZcY,YX,Zaq,XL,XM]
 refine au ?_
 intros; refine lpP 10 (fun⟨p28,p29⟩=>([(5,.one (.ms 44 0 0 (p29.length) 1)),(48,.one (.v (.int .i64 p28)))],[(44,⟨0,1,Zg .u8 p29,false,true⟩)])) ?_; rintro⟨p28,p29⟩ x; simp only[ZcX,YX,Zaq,XL,XM]
 refine au ?_
 intros; refine lpP 16 (fun⟨p60,p61⟩=>([(5,.one (.ms 900005 0 0 (p61.length) 1)),(64,.one (.v (.int .i64 p60)))],[(900005,⟨0,1,Zg .u8 p61,false,true⟩)])) ?_; rintro⟨p60,p61⟩ x; simp only[Zar,YX,Zaq,XL,XM]
 refine au ?_
 intros; refine lpP 21 (fun⟨p82,p83⟩=>([(5,.one (.ms 900005 0 0 (p83.length) 1)),(79,.one (.v (.int .i64 p82)))],[(900005,⟨0,1,Zg .u8 p83,false,true⟩)])) ?_; rintro⟨p82,p83⟩ x; simp only[Zbj,YX,Zaq,XL,XM]
 exact au
theorem w141:Walk tt G [(142,K142.G)] (fun _=>[]) Tryz.f141 K141:=by
 refine .ak [(4,⟨[1,20,21,22],[1],[]⟩),(10,⟨[1,37,38,39],[1],[]⟩),(15,⟨[1,37,38,39,48,49,50],[1],[]⟩)] false Tryz.ntmps141 fun T hO hT a0 x=>?_
 simp only[Zh] at hT; simp only[kS,nfs,Zag,Zbk,ZcD,Zbm];refine au ?_
 intros; refine lpP 4 (fun p4=>([(22,.one (.v (.int .i64 p4)))],[])) ?_; rintro p4 x; simp only[ZcF,Zbk,ZcD,Zbm]
 refine au ?_
 intros; refine lpP 10 (fun p19=>([(39,.one (.v (.int .i64 p19)))],[])) ?_; rintro p19 x; simp only[ZcE,Zbk,ZcD,Zbm]
 refine au ?_
 intros; refine lpP 15 (fun p31=>([(50,.one (.v (.int .i64 p31)))],[])) ?_; rintro p31 x; simp only[Zbl,Zbk,ZcD,Zbm]
 exact au
theorem w108:Walk tt G [(37,K37.G),(141,K141.G),(142,K142.G)] (fun _=>[]) Tryz.f108 K108:=by
 refine .ak [] false Tryz.ntmps108 fun T hO hT a0 x=>?_
 simp only[Zh] at hT; simp only[kS,nfs,Zex];exact au
end Go.Proofs.YtcfpmbefhfbdjaaGreatDoor
