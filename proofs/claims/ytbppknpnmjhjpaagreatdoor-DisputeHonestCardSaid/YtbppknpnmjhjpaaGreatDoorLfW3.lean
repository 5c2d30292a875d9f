import Derived.Test.YtbppknpnmjhjpaaGreatDoorLfK
import Derived.Test.YtbppknpnmjhjpaaGreatDoorCode
import Derived.Test.YtbppknpnmjhjpaaGreatDoorBl
namespace Go.Proofs.YtbppknpnmjhjpaaGreatDoor
open Go.RowKit
open Go.Av
open Go.Lc
set_option maxRecDepth 100000
set_option linter.unusedSimpArgs false
set_option linter.unusedVariables false
set_option maxHeartbeats 4000000
theorem w139:Walk tt G [(58,K58.G),(147,K147.G),(148,K148.G),(149,K149.G),(183,K183.G)] (fun _=>[]) Tryz.f139 K139:=by
 refine .ak [(4,⟨[1,2,5,24,25,26],[2,900005],[(5,none,900005,0),(5,none,900005,1)]⟩),(10,⟨[1,2,5,46,47,48],[2,44],[]⟩),(16,⟨[1,5,62,63,64],[900005],[(5,none,900005,0),(5,none,900005,1)]⟩),(21,⟨[1,5,62,63,64,77,78,79],[900005],[(5,none,900005,0),(5,none,900005,1)]⟩)] true Tryz.ntmps139 fun T hO hT ⟨a0,a1⟩ x=>?_
 simp only[Zh] at hT; simp only[kS,nfs,ZaG,YZ,ZaM,XV,XW];refine au ?_
 intros; refine lpP 4 (fun⟨p13,p14⟩=>([(5,.one (.ms 900005 0 0 (p14.length) 1)),(26,.one (.v (.int .i64 p13)))],[(900005,⟨0,1,Zg .u8 p14,false,true⟩)])) ?_; rintro⟨p13,p14⟩ x; simp only[ZdN,YZ,ZaM,XV,XW]
 refine au ?_
 intros; refine lpP 10 (fun⟨p28,p29⟩=>([(5,.one (.ms 44 0 0 (p29.length) 1)),(48,.one (.v (.int .i64 p28)))],[(44,⟨0,1,Zg .u8 p29,false,true⟩)])) ?_; rintro⟨p28,p29⟩ x; simp only[ZdM,YZ,ZaM,XV,XW]
 refine au ?_
 intros; refine lpP 16 (fun⟨p60,p61⟩=>([(5,.one (.ms 900005 0 0 (p61.length) 1)),(64,.one (.v (.int .i64 p60)))],[(900005,⟨0,1,Zg .u8 p61,false,true⟩)])) ?_; rintro⟨p60,p61⟩ x; simp only[ZaN,YZ,ZaM,XV,XW]
 refine au ?_
 intros; refine lpP 21 (fun⟨p82,p83⟩=>([(5,.one (.ms 900005 0 0 (p83.length) 1)),(79,.one (.v (.int .i64 p82)))],[(900005,⟨0,1,Zg .u8 p83,false,true⟩)])) ?_; rintro⟨p82,p83⟩ x; simp only[ZbT,YZ,ZaM,XV,XW]
 exact au
theorem w136:Walk tt G [(139,K139.G)] (fun _=>[]) Tryz.f136 K136:=by
 refine .ak [(4,⟨[1,20,21,22],[1],[]⟩),(10,⟨[1,37,38,39],[1],[]⟩),(15,⟨[1,37,38,39,48,49,50],[1],[]⟩)] false Tryz.ntmps136 fun T hO hT a0 x=>?_
 simp only[Zh] at hT; simp only[kS,nfs,Zaz,ZbU,Zdp,ZbW];refine au ?_
 intros; refine lpP 4 (fun p4=>([(22,.one (.v (.int .i64 p4)))],[])) ?_; rintro p4 x; simp only[Zdr,ZbU,Zdp,ZbW]
 refine au ?_
 intros; refine lpP 10 (fun p19=>([(39,.one (.v (.int .i64 p19)))],[])) ?_; rintro p19 x; simp only[Zdq,ZbU,Zdp,ZbW]
 refine au ?_
 intros; refine lpP 15 (fun p31=>([(50,.one (.v (.int .i64 p31)))],[])) ?_; rintro p31 x; simp only[ZbV,ZbU,Zdp,ZbW]
 exact au
theorem w140:Walk tt G [(25,K25.G),(136,K136.G),(139,K139.G)] (fun _=>[]) Tryz.f140 K140:=by
 refine .ak [] false Tryz.ntmps140 fun T hO hT a0 x=>?_
 simp only[Zh] at hT; simp only[kS,nfs,Zgo];exact au
theorem w88:Walk tt G [(114,K114.G)] (fun _=>[]) Tryz.f88 K88:=by
 refine .ak [(3,⟨[3,6,7,8],[900003],[(3,none,900003,0),(3,none,900003,1)]⟩)] true Tryz.ntmps88 fun T hO hT a0 x=>?_
 simp only[Zh] at hT; simp only[kS,nfs,Xt,Zho];refine au ?_
 intros; refine lpP 3 (fun⟨p7,p8⟩=>([(3,.one (.ms 900003 0 0 (p8.length) 1)),(8,.one (.v (.int .i64 p7)))],[(900003,⟨0,1,Zg .u8 p8,false,true⟩)])) ?_; rintro⟨p7,p8⟩ x; simp only[Zae,Zho]
 exact au
theorem w213:Walk tt G [(57,G57),(88,K88.G)] (fun _=>[]) Tryz.f213 K213:=by
 refine .ak [] false Tryz.ntmps213 fun T hO hT ⟨a0,a1⟩ x=>?_
 simp only[Zh] at hT; simp only[kS,nfs,Zgp];exact auR
theorem w184:Walk tt G [(213,K213.G)] (fun _=>[]) Tryz.f184 K184:=by
 refine .ak [(2,⟨[0,3],[7],[(0,none,1,1)]⟩),(5,⟨[0,3,4,5],[7,900004],[(4,none,900004,32)]⟩)] true Tryz.ntmps184 fun T hO hT a0 x=>?_
 simp only[Zh] at hT; simp only[kS,nfs,ZbG,ZfM,ZdX,Zb2];refine au ?_
 intros; refine lpP 2 (fun⟨p51,p52⟩=>([(0,.one (.slice .no (List.map (arC .u8) p51))),(3,.one (.ms 7 0 0 (p52.length) 1))],[(7,⟨0,1,List.map ZgA p52,false,true⟩)])) ?_; rintro⟨p51,p52⟩ x; simp only[Lref07_levels_s1,ZfM,ZdX,Zb2]
 refine au ?_
 intros; refine lpP 5 (fun⟨p91,p92⟩=>([(4,.one (.ms 900004 0 0 (p92.length) 32)),(5,.one (.v (.int .i64 p91)))],[(900004,⟨0,32,List.map (arC .u8) p92,false,true⟩)])) ?_; rintro⟨p91,p92⟩ x; simp only[ZdY,ZfM,ZdX,Zb2]
 exact au
theorem w141:Walk tt G [(184,K184.G)] (fun _=>[]) Tryz.f141 K141:=by
 refine .ak [] false Tryz.ntmps141 fun T hO hT a0 x=>?_
 simp only[Zh] at hT; simp only[kS,nfs,Zdj];exact au
theorem w84:Walk tt G [(140,K140.G),(141,K141.G)] (fun _=>[]) Tryz.f84 K84:=by
 refine .ak [(3,⟨[2,3,6,7,8],[2,16],[(3,none,16,32)]⟩)] false Tryz.ntmps84 fun T hO hT a0 x=>?_
 simp only[Zh] at hT; simp only[kS,nfs,Zcc,Zfc];refine au ?_
 intros; refine lpP 3 (fun⟨p8,p9⟩=>([(3,.one (.ms 16 0 0 (p9.length) 32)),(8,.one (.v (.int .i64 p8)))],[(16,⟨0,32,List.map (arC .u8) p9,false,true⟩)])) ?_; rintro⟨p8,p9⟩ x; simp only[Zfd,Zfc]
 exact au
theorem w80:Walk tt G [(25,K25.G),(136,K136.G),(139,K139.G)] (fun _=>[]) Tryz.f80 K80:=by
 refine .ak [] false Tryz.ntmps80 fun T hO hT a0 x=>?_
 simp only[Zh] at hT; simp only[kS,nfs,Zfz];exact au
theorem w93:Walk tt G [] (fun _=>[]) Tryz.f93 K93:=by
 refine .ak [] true Tryz.ntmps93 fun T hO hT a0 x=>?_
 simp only[Zh] at hT; simp only[kS,nfs,Zbc];exact auR
theorem w189:Walk tt G [] (fun _=>[]) Tryz.f189 K189:=by
 refine .ak [] false Tryz.ntmps189 fun T hO hT a0 x=>?_
 simp only[Zh] at hT; simp only[kS,nfs,ZiG];exact au
theorem w150:Walk tt G [(93,K93.G),(189,K189.G)] (fun _=>[]) Tryz.f150 K150:=by
 refine .ak [] true Tryz.ntmps150 fun T hO hT ⟨a0,a1⟩ x=>?_
 simp only[Zh] at hT; simp only[kS,nfs,Zgt,Zfj];exact ZiC
end Go.Proofs.YtbppknpnmjhjpaaGreatDoor
