import Derived.Test.YtbppknpnmjhjpaaGreatDoorLfK
import Derived.Test.YtbppknpnmjhjpaaGreatDoorCode
import Derived.Test.YtbppknpnmjhjpaaGreatDoorBl
namespace Go.Proofs.YtbppknpnmjhjpaaGreatDoor
open Go.RowKit
open Go.Av
open Go.Lc
set_option maxRecDepth 100000
set_option linter.unusedSimpArgs false
set_option linter.unusedVariables false
set_option maxHeartbeats 4000000
section
attribute [local simp] az64 bz4
theorem w52:Walk tt G [(53,K53.G),(104,K104.G),(105,K105.G),(106,K106.G)] (fun _=>[]) Tryz.f52 K52:=by
 refine .ak [(20,⟨[9,74,75,76],[9],[]⟩)] false Tryz.ntmps52 fun T hO hT ⟨a0,a1,a2,a3⟩ x=>?_
 simp only[Zh] at hT; simp only[kS,nfs,ZcY,Lref14_Checkw_k1];refine au ?_
 intros; refine lpP 20 (fun p8=>([(76,.one (.v (.int .i64 p8)))],[])) ?_; rintro p8 x; simp only[Zis,Lref14_Checkw_k1]
 exact au
end
theorem w109:Walk tt G [] (fun _=>[]) Tryz.f109 K109:=by
 refine .ak [] false Tryz.ntmps109 fun T hO hT a0 x=>?_
 simp only[Zh] at hT; simp only[kS,nfs,Zi0];exact au
section
attribute [local simp] az64 bz4
theorem w54:Walk tt G [(108,K108.G),(109,K109.G)] (fun _=>[]) Tryz.f54 K54:=by
 refine .ak [] false Tryz.ntmps54 fun T hO hT a0 x=>?_
 simp only[Zh] at hT; simp only[kS,nfs,Zfg];exact au
end
theorem w55:Walk tt G [(9,K9.G),(110,K110.G)] (fun _=>[]) Tryz.f55 K55:=by
 refine .ak [] false Tryz.ntmps55 fun T hO hT a0 x=>?_
 simp only[Zh] at hT; simp only[kS,nfs,Zfh];exact au
theorem w56:Walk tt G [(9,K9.G),(110,K110.G)] (fun _=>[]) Tryz.f56 K56:=by
 refine .ak [] false Tryz.ntmps56 fun T hO hT a0 x=>?_
 simp only[Zh] at hT; simp only[kS,nfs,Zfi];exact au
section
attribute [local simp] az64 bz4
theorem w24:Walk tt G [(54,K54.G),(55,K55.G),(56,K56.G)] (fun _=>[]) Tryz.f24 K24:=by
 refine .ak [] true Tryz.ntmps24 fun T hO hT a0 x=>?_
 simp only[Zh] at hT; simp only[kS,nfs,Zgs];exact au
end
section
attribute [local simp] az64 bz4
theorem w23_1:Walk tt G [(50,K50.G),(51,K51.G),(52,K52.G),(53,K53.G)] (fun _=>[]) Tryz.f23 K23_1:=by
 refine .ak [(4,⟨[2,4,29,30,31],[2,4,15,18,23,26],[]⟩)] true Tryz.ntmps23 (hi:=by intro x; simp[E23_1]) (fun T hO hT ⟨a0,a1⟩ x=>?_);simp only[Zh] at hT; simp only[kS,E23_1,nfs,Zgv,Zjx];refine au ?_
 intros; refine lpP 4 (fun⟨p38,p39,p40,p41,p42⟩=>([(31,.one (.v (.int .i64 p38)))],[(2,⟨0,84,[(.v (.int .u32 a0.1.1.1)) :: ((arC .u8 a0.1.1.2.1)++((arC .u8 a0.1.1.2.2.1)++((.v (.int .u32 a0.1.1.2.2.2.1)) :: ((.v (.int .u32 a0.1.1.2.2.2.2.1)) :: ((.v (.int .u32 a0.1.1.2.2.2.2.2)) :: ((arC .u64 a0.1.2.1)++((.v (.int .i64 a0.1.2.2.1)) :: ((.v (.int .u32 a0.1.2.2.2.1)) :: ((.v (.int .u32 a0.1.2.2.2.2.1)) :: ((.v (.int .u32 a0.1.2.2.2.2.2.1)) :: ((.slice .no (List.map eapi_Checkpoint a0.1.2.2.2.2.2.2.1)) :: ((.v (.int .i64 a0.1.2.2.2.2.2.2.2.1)) :: ((.v (.int .i64 a0.1.2.2.2.2.2.2.2.2.1)) :: ((.v (.int .i64 a0.1.2.2.2.2.2.2.2.2.2)) :: ((.ms 15 0 0 (p39.length) 69) :: ((.ms 23 0 0 (p40.length) 34) :: ((.ms 26 0 0 (p41.length) 36) :: ((.ms 18 0 0 (p42.length) 1) :: []))))))))))))))))))],false,false⟩),(15,⟨0,69,List.map Yq p39,false,true⟩),(18,⟨0,1,List.map Zdm p42,false,true⟩),(23,⟨0,34,List.map Y3 p40,false,true⟩),(26,⟨0,36,List.map Yv p41,false,true⟩)])) ?_; rintro⟨p38,p39,p40,p41,p42⟩ x; simp only[Zjy,Zjx]
 exact au
end
section
attribute [local simp] az64 bz4
theorem w6:Walk tt G [(23,K23_1.G),(24,K24.G)] (fun d=>if d=8 then[[0,0,0,0,0,0,0,0,0,0,0,0,0,0,0,0,0,0,0,0,0,0,0,0,0,0,0,0,0,0,0,0,0,0,0,0,0,0,0,0,0,0,0,0,0,0,0,0,0,0,0,0,0,0,0,0,0,0,0,0,0,0,0,0,0,0,0,0,0,0,0,0,0,0,0,0,0,0,0,0,0,34,36]] else[]) Tryz.f6 K6:=by
 refine .ak [] true Tryz.ntmps6 fun T hO hT ⟨a0,a1⟩ x=>?_
 simp only[Zh] at hT; simp only[kS,nfs,Zfn];exact au
end
theorem w7:Walk tt G [] (fun _=>[]) Tryz.f7 K7:=by
 refine .ak [] false Tryz.ntmps7 fun T hO hT ⟨a0,a1⟩ x=>?_
 simp only[Zh] at hT; simp only[kS,nfs,Zhu];exact au
theorem w116:Walk tt G [] (fun _=>[]) Tryz.f116 K116:=by
 refine .ak [] true Tryz.ntmps116 fun T hO hT ⟨a0,a1⟩ x=>?_
 simp only[Zh] at hT; simp only[kS,nfs,YJ];exact au
theorem w167:Walk tt G [] (fun _=>[]) Tryz.f167 K167:=by
 refine .ak [(3,⟨[0,5,9,10],[8],[]⟩)] true Tryz.ntmps167 fun T hO hT ⟨a0,a1⟩ x=>?_
 simp only[Zh] at hT; simp only[kS,nfs,Xo,ZfF];refine au ?_
 intros; refine lpP 3 (fun⟨p8,p9⟩=>([(5,.one (.ms 8 0 0 (p9.length) 1)),(10,.one (.v (.int .i64 p8)))],[(8,⟨0,1,Zg .u8 p9,false,true⟩)])) ?_; rintro⟨p8,p9⟩ x; simp only[ZdJ,ZfF]
 exact au
theorem w117:Walk tt G [(116,K116.G),(167,K167.G)] (fun _=>[]) Tryz.f117 K117:=by
 refine .ak [] true Tryz.ntmps117 fun T hO hT ⟨a0,a1⟩ x=>?_
 simp only[Zh] at hT; simp only[kS,nfs,ZbR];exact au
theorem w118:Walk tt G [(116,K116.G),(167,K167.G)] (fun _=>[]) Tryz.f118 K118:=by
 refine .ak [] true Tryz.ntmps118 fun T hO hT ⟨a0,a1⟩ x=>?_
 simp only[Zh] at hT; simp only[kS,nfs,Z9];exact au
theorem w119:Walk tt G [(116,K116.G),(167,K167.G)] (fun _=>[]) Tryz.f119 K119:=by
 refine .ak [] true Tryz.ntmps119 fun T hO hT ⟨a0,a1⟩ x=>?_
 simp only[Zh] at hT; simp only[kS,nfs,ZaL];exact au
theorem w60:Walk tt G [(116,K116.G),(117,K117.G),(118,K118.G),(119,K119.G)] (fun _=>[]) Tryz.f60 K60:=by
 refine .ak [] true Tryz.ntmps60 fun T hO hT ⟨a0,a1⟩ x=>?_
 simp only[Zh] at hT; simp only[kS,nfs,YB];exact au
theorem w120:Walk tt G [(116,K116.G)] (fun _=>[]) Tryz.f120 K120:=by
 refine .ak [] true Tryz.ntmps120 fun T hO hT ⟨a0,a1⟩ x=>?_
 simp only[Zh] at hT; simp only[kS,nfs,Xv];exact au
theorem w61:Walk tt G [(118,K118.G),(120,K120.G)] (fun _=>[]) Tryz.f61 K61:=by
 refine .ak [] true Tryz.ntmps61 fun T hO hT a0 x=>?_
 simp only[Zh] at hT; simp only[kS,nfs,XA];exact au
theorem w68:Walk tt G [(118,K118.G),(120,K120.G)] (fun _=>[]) Tryz.f68 K68:=by
 refine .ak [] true Tryz.ntmps68 fun T hO hT a0 x=>?_
 simp only[Zh] at hT; simp only[kS,nfs,Zfy];exact au
theorem w71:Walk tt G [(60,K60.G),(116,K116.G)] (fun _=>[]) Tryz.f71 K71:=by
 refine .ak [] true Tryz.ntmps71 fun T hO hT ⟨a0,a1⟩ x=>?_
 simp only[Zh] at hT; simp only[kS,nfs,Xf];exact au
theorem w122:Walk tt G [(60,K60.G),(68,K68.G),(71,K71.G),(118,K118.G),(119,K119.G)] (fun _=>[]) Tryz.f122 K122:=by
 refine .ak [(4,⟨[1,2,5,25,26,27],[2,16],[]⟩),(11,⟨[1,2,5,50,51,52],[2,16],[]⟩),(20,⟨[5,77,78,79],[16],[]⟩),(24,⟨[5,77,78,79,91,92,93],[16],[]⟩)] true Tryz.ntmps122 fun T hO hT ⟨a0,a1⟩ x=>?_
 simp only[Zh] at hT; simp only[kS,nfs,ZfG,ZcT,ZcU,ZbA,ZbB];refine auA ?_
 intros; refine lpP 4 (fun⟨p16,p17⟩=>([(5,.one (.ms 16 0 0 (p17.length) 1)),(27,.one (.v (.int .i64 p16)))],[(16,⟨0,1,Zg .u8 p17,false,true⟩)])) ?_; rintro⟨p16,p17⟩ x; simp only[ZfZ,ZcT,ZcU,ZbA,ZbB]
 refine auA ?_
 intros; refine lpP 11 (fun⟨p37,p38⟩=>([(5,.one (.ms 16 0 0 (p38.length) 1)),(52,.one (.v (.int .i64 p37)))],[(16,⟨0,1,Zg .u8 p38,false,true⟩)])) ?_; rintro⟨p37,p38⟩ x; simp only[ZfY,ZcT,ZcU,ZbA,ZbB]
 refine auA ?_
 intros; refine lpP 20 (fun⟨p80,p81⟩=>([(5,.one (.ms 16 0 0 (p81.length) 1)),(79,.one (.v (.int .i64 p80)))],[(16,⟨0,1,Zg .u8 p81,false,true⟩)])) ?_; rintro⟨p80,p81⟩ x; simp only[ZfX,ZcT,ZcU,ZbA,ZbB]
 refine auA ?_
 intros; refine lpP 24 (fun⟨p109,p110⟩=>([(5,.one (.ms 16 0 0 (p110.length) 1)),(93,.one (.v (.int .i64 p109)))],[(16,⟨0,1,Zg .u8 p110,false,true⟩)])) ?_; rintro⟨p109,p110⟩ x; simp only[Zee,ZcT,ZcU,ZbA,ZbB]
 exact auA
theorem w121:Walk tt G [(122,K122.G)] (fun _=>[]) Tryz.f121 K121:=by
 refine .ak [(4,⟨[1,20,21,22],[1],[]⟩),(10,⟨[1,37,38,39],[1],[]⟩),(15,⟨[1,37,38,39,48,49,50],[1],[]⟩)] false Tryz.ntmps121 fun T hO hT a0 x=>?_
 simp only[Zh] at hT; simp only[kS,nfs,Zil,ZeJ,Zgh,ZeL];refine au ?_
 intros; refine lpP 4 (fun p4=>([(22,.one (.v (.int .i64 p4)))],[])) ?_; rintro p4 x; simp only[Zgj,ZeJ,Zgh,ZeL]
 refine au ?_
 intros; refine lpP 10 (fun p19=>([(39,.one (.v (.int .i64 p19)))],[])) ?_; rintro p19 x; simp only[Zgi,ZeJ,Zgh,ZeL]
 refine au ?_
 intros; refine lpP 15 (fun p31=>([(50,.one (.v (.int .i64 p31)))],[])) ?_; rintro p31 x; simp only[ZeK,ZeJ,Zgh,ZeL]
 exact au
theorem w62:Walk tt G [(121,K121.G),(122,K122.G)] (fun _=>[]) Tryz.f62 K62:=by
 refine .ak [] false Tryz.ntmps62 fun T hO hT ⟨a0,a1⟩ x=>?_
 simp only[Zh] at hT; simp only[kS,nfs,Zdf];exact au
theorem w27:Walk tt G [(60,K60.G),(61,K61.G),(62,K62.G)] (fun _=>[]) Tryz.f27 K27:=by
 refine .ak [(5,⟨[4,22,23,24],[20],[]⟩)] false Tryz.ntmps27 fun T hO hT a0 x=>?_
 simp only[Zh] at hT; simp only[kS,nfs,ZcW,ZfJ];refine au ?_
 intros; refine lpP 5 (fun⟨p11,p12⟩=>([(4,.one (.ms 20 0 0 (p12.length) 1)),(24,.one (.v (.int .i64 p11)))],[(20,⟨0,1,Zg .u8 p12,false,true⟩)])) ?_; rintro⟨p11,p12⟩ x; simp only[Zb0,ZfJ]
 exact au
theorem w63:Walk tt G [] (fun _=>[]) Tryz.f63 K63:=by
 refine .ak [(3,⟨[3,6,7,8],[],[]⟩)] false Tryz.ntmps63 fun T hO hT a0 x=>?_
 simp only[Zh] at hT; simp only[kS,nfs,Zcs,ZiW];refine au ?_
 intros; refine lpP 3 (fun⟨p7,p8⟩=>([(3,.one (.v (.int .u64 p7))),(8,.one (.v (.int .i64 p8)))],[])) ?_; rintro⟨p7,p8⟩ x; simp only[ZgY,ZiW]
 exact au
theorem w28:Walk tt G [(63,K63.G)] (fun _=>[]) Tryz.f28 K28:=by
 refine .ak [] false Tryz.ntmps28 fun T hO hT a0 x=>?_
 simp only[Zh] at hT; simp only[kS,nfs,Zjt];exact au
theorem w129:Walk tt G [] (fun _=>[]) Tryz.f129 K129:=by
 refine .ak [(3,⟨[3,6,7,8],[14],[(3,none,14,1)]⟩)] true Tryz.ntmps129 fun T hO hT a0 x=>?_
 simp only[Zh] at hT; simp only[kS,nfs,Zjq,ZlN];refine au ?_
 intros; refine lpP 3 (fun⟨p7,p8⟩=>([(3,.one (.ms 14 0 0 (p8.length) 1)),(8,.one (.v (.int .i64 p7)))],[(14,⟨0,1,Zg .u8 p8,false,true⟩)])) ?_; rintro⟨p7,p8⟩ x; simp only[ZhX,ZlN]
 exact au
theorem w130:Walk tt G [] (fun _=>[]) Tryz.f130 K130:=by
 refine .ak [(5,⟨[0,4,18],[15],[]⟩)] true Tryz.ntmps130 fun T hO hT a0 x=>?_
 simp only[Zh] at hT; simp only[kS,nfs,Zjr,ZlO];refine au ?_
 intros; refine lpP 5 (fun⟨p9,p10⟩=>([(4,.one (.ms 15 0 0 (p10.length) 1)),(18,.one (.v (.int .i64 p9)))],[(15,⟨0,1,Zg .u8 p10,false,true⟩)])) ?_; rintro⟨p9,p10⟩ x; simp only[ZhY,ZlO]
 exact au
theorem w179:Walk tt G [(199,K199.G)] (fun _=>[]) Tryz.f179 K179:=by
 refine .ak [] false Tryz.ntmps179 fun T hO hT ⟨a0,a1⟩ x=>?_
 simp only[Zh] at hT; simp only[kS,nfs,XX];exact au
end Go.Proofs.YtbppknpnmjhjpaaGreatDoor
