import Derived.Test.YtbppknpnmjhjpaaGreatDoorLfK
import Derived.Test.YtbppknpnmjhjpaaGreatDoorCode
import Derived.Test.YtbppknpnmjhjpaaGreatDoorBl
namespace Go.Proofs.YtbppknpnmjhjpaaGreatDoor
open Go.RowKit
open Go.Av
open Go.Lc
set_option maxRecDepth 100000
set_option linter.unusedSimpArgs false
set_option linter.unusedVariables false
set_option maxHeartbeats 4000000
section
attribute [local simp] az64 bz4
theorem w51:Walk tt G [(9,K9.G),(92,K92.G),(96,K96.G),(97,K97.G),(98,K98.G),(99,K99.G),(100,K100.G),(101,K101.G),(102,K102.G),(103,K103.G)] (fun _=>[]) Tryz.f51 K51:=by
 refine .sk [(7,⟨[3,5,6,7,10,11,12,46,47,48],[3,5,6,7,10,11,105],[(11,some 0,105,37)]⟩),(1000022,⟨[3,5,6,7,10,11,12,14,46,47,48],[3,5,6,7,10,11,14,105],[]⟩),(17,⟨[3,5,6,7,10,11,12,14,15,17,46,47,48,83,84,85],[3,5,6,7,10,11,14,105],[]⟩)] false Tryz.ntmps51 fun T hO hT ⟨a0,a1,a2⟩ x hr=>?_
 simp only[Zh] at hT; simp only[kS,nfs] at hr ⊢;unfold ZcK at hr;refine go ?_;obtain⟨y119,ehy119,hr⟩:=bN hr K96.q3;refine go ?_;rcases eqT (y119=0) with c120 | c120
 ·replace hr:=ifN hr
  refine go ?_;obtain⟨y121,ehy121,hr⟩:=bN hr K9.q1;refine go ?_;obtain⟨_,ehy122,hr⟩:=bN hr K92.q2;refine go ?_;refine lp 7 (fun(⟨p50,p51,p52,p53⟩:Int×Int×(List Tapi_Coin)×(List Tapi_Coin))=>⟨(und 3++([.ptr 3 0 0 0 80]++(und 1++([.ptr 5 0 0 0 69,.ptr 6 0 0 0 34,.ptr 7 0 0 0 1]++(und 2++([.ptr 10 0 0 0 34,.ptr 11 0 0 0 1,.one (.v (.int .i64 p50))]++(und 33++([.one (.slice .no (List.map ZQ a2.2)),.one (.v (.int .i64 (a2.2.length:Int))),.one (.v (.int .i64 p51))]++(und 104)))))))):List PV),([(3,⟨0,80,[(.v (.int .u32 a0.1.1)) :: ((arC .u8 a0.1.2.1)++((arC .u8 a0.1.2.2.1)++((.v (.int .u32 a0.1.2.2.2.1)) :: ((.v (.int .u32 a0.1.2.2.2.2.1)) :: ((.v (.int .u32 a0.1.2.2.2.2.2)) :: ((arC .u64 a0.2.1)++((.v (.int .i64 a0.2.2.1)) :: ((.v (.int .u32 a0.2.2.2.1)) :: ((.v (.int .u32 a0.2.2.2.2.1)) :: ((.v (.int .u32 a0.2.2.2.2.2.1)) :: ((.slice .no (List.map eapi_Checkpoint a0.2.2.2.2.2.2.1)) :: ((.v (.int .i64 a0.2.2.2.2.2.2.2.1)) :: ((.v (.int .i64 a0.2.2.2.2.2.2.2.2.1)) :: ((.v (.int .i64 a0.2.2.2.2.2.2.2.2.2)) :: []))))))))))))))],false,false⟩),(5,⟨0,69,[(.v (.int .u32 a2.1.1)) :: ((arC .u8 a2.1.2.1)++((arC .u8 a2.1.2.2.1)++((.v (.int .u32 a2.1.2.2.2.1)) :: ((.v (.int .u32 a2.1.2.2.2.2.1)) :: ((.v (.int .u32 a2.1.2.2.2.2.2)) :: ((.slice .no (List.map ZQ a2.2)) :: []))))))],false,false⟩),(6,⟨0,34,[(.v (.int .i64 0)) :: ((arC .u8 (zA 32))++((.slice .nil []) :: []))],false,false⟩),(7,⟨0,1,[[.slice .nil []]],false,false⟩),(10,⟨0,34,[(.v (.int .i64 (IntKind.i64.wrap (a1.1+1)))) :: ((arC .u8 y121)++((.slice .no (List.map Zs p52)) :: []))],false,false⟩),(11,⟨0,1,[[.ms 105 0 0 (p53.length) 37]],false,false⟩),(105,⟨0,37,List.map Zs p53,false,true⟩)]:Boxes)⟩) hr ?_;rintro⟨p50,p51,p52,p53⟩ x166r hr166
  simp only[Zg2] at hr166;refine nst ?_;refine go ?_;by_cases c167:p51<(a2.2.length:Int)
  ·have c167N:=nrm c167
   replace hr166:=ifP hr166
   refine go ?_;obtain⟨x168,⟨_,_,_⟩,hr166⟩:=bI hr166;refine go ?_;refine ZoD hr166 (fun(s:Int×(List Tapi_Coin)×(List Tapi_Coin))=>match s with | (p96,p97,p98)=>(⟨(und 3++([.ptr 3 0 0 0 80]++(und 1++([.ptr 5 0 0 0 69,.ptr 6 0 0 0 34,.ptr 7 0 0 0 1]++(und 2++([.ptr 10 0 0 0 34,.ptr 11 0 0 0 1,.one (.v (.int .i64 p96))]++(und 1++([.ptr 14 0 0 0 4]++(und 31++([.one (.slice .no (List.map ZQ a2.2)),.one (.v (.int .i64 (a2.2.length:Int))),.one (.v (.int .i64 p51))]++(und 104)))))))))):List PV),([(3,⟨0,80,[(.v (.int .u32 a0.1.1)) :: ((arC .u8 a0.1.2.1)++((arC .u8 a0.1.2.2.1)++((.v (.int .u32 a0.1.2.2.2.1)) :: ((.v (.int .u32 a0.1.2.2.2.2.1)) :: ((.v (.int .u32 a0.1.2.2.2.2.2)) :: ((arC .u64 a0.2.1)++((.v (.int .i64 a0.2.2.1)) :: ((.v (.int .u32 a0.2.2.2.1)) :: ((.v (.int .u32 a0.2.2.2.2.1)) :: ((.v (.int .u32 a0.2.2.2.2.2.1)) :: ((.slice .no (List.map eapi_Checkpoint a0.2.2.2.2.2.2.1)) :: ((.v (.int .i64 a0.2.2.2.2.2.2.2.1)) :: ((.v (.int .i64 a0.2.2.2.2.2.2.2.2.1)) :: ((.v (.int .i64 a0.2.2.2.2.2.2.2.2.2)) :: []))))))))))))))],false,false⟩),(5,⟨0,69,[(.v (.int .u32 a2.1.1)) :: ((arC .u8 a2.1.2.1)++((arC .u8 a2.1.2.2.1)++((.v (.int .u32 a2.1.2.2.2.1)) :: ((.v (.int .u32 a2.1.2.2.2.2.1)) :: ((.v (.int .u32 a2.1.2.2.2.2.2)) :: ((.slice .no (List.map ZQ a2.2)) :: []))))))],false,false⟩),(6,⟨0,34,[(.v (.int .i64 0)) :: ((arC .u8 (zA 32))++((.slice .nil []) :: []))],false,false⟩),(7,⟨0,1,[[.slice .nil []]],false,false⟩),(10,⟨0,34,[(.v (.int .i64 (IntKind.i64.wrap (a1.1+1)))) :: ((arC .u8 y121)++((.slice .no (List.map Zs p97)) :: []))],false,false⟩),(11,⟨0,1,[[.ms 105 0 0 (p98.length) 37]],false,false⟩),(14,⟨0,4,[[.v (.int .u32 x168.1),.slice .no (List.map Zbs x168.2.1),.slice .no (List.map Y2 x168.2.2.1),.v (.int .u32 x168.2.2.2)]],false,false⟩),(105,⟨0,37,List.map Zs p98,false,true⟩)]:Boxes)⟩:ASt)) (fun(s:Int×(List Tapi_Coin)×(List Tapi_Coin))=>match s with | (p96,p97,p98)=>X6 x168 a1 p51 p96 p97 p98) ?_ ?_
   ·rintro⟨p96,p97,p98⟩ hk187
    change X6 x168 a1 p51 p96 p97 p98=_ at hk187
    refine nst ?_;unfold X6 at hk187;obtain⟨y188,ehy188,hk187⟩:=bN hk187 K101.q3;refine Zoi rfl (kq:=⟨[3,5,6,7,10,11,12,14,46,47,48],[3,5,6,7,10,11,14,105],[]⟩) rfl (by simp[ZbL, *]; rfl) (by simp[*] <;> rfl) ?_;refine go ?_;rcases eqT (y188.2=0) with c189 | c189
    ·replace hk187:=ifN hk187
     refine go ?_;exact bk hk187
    ·replace hk187:=ifP hk187
     refine go ?_;exact fin hk187
   ·intro J187
    by_cases c190:0<p51
    ·replace hr166:=ifP hr166
     refine go ?_;obtain⟨y191,ehy191,hr166⟩:=bN hr166 K97.q4;refine go ?_;rcases eqT (y191.2=0) with c192 | c192
     ·replace hr166:=ifN hr166
      refine go ?_;obtain⟨y193,ehy193,hr166⟩:=bN hr166 K98.q3;refine go ?_;rcases eqT (y193.2=0) with c194 | c194
      ·replace hr166:=ifN hr166
       refine go ?_;refine lp 17 (fun(⟨p110,p111⟩:Int×(List Tapi_Coin))=>⟨(und 3++([.ptr 3 0 0 0 80]++(und 1++([.ptr 5 0 0 0 69,.ptr 6 0 0 0 34,.ptr 7 0 0 0 1]++(und 2++([.ptr 10 0 0 0 34,.ptr 11 0 0 0 1,.one (.v (.int .i64 p50))]++(und 1++([.ptr 14 0 0 0 4,.one (.slice .no (List.map Zs y191.1))]++(und 1++([.one (.v (.int .i64 y193.1))]++(und 28++([.one (.slice .no (List.map ZQ a2.2)),.one (.v (.int .i64 (a2.2.length:Int))),.one (.v (.int .i64 p51))]++(und 34++([.one (.slice .no (List.map Zs y191.1)),.one (.v (.int .i64 (y191.1.length:Int))),.one (.v (.int .i64 p110))]++(und 67)))))))))))))):List PV),([(3,⟨0,80,[(.v (.int .u32 a0.1.1)) :: ((arC .u8 a0.1.2.1)++((arC .u8 a0.1.2.2.1)++((.v (.int .u32 a0.1.2.2.2.1)) :: ((.v (.int .u32 a0.1.2.2.2.2.1)) :: ((.v (.int .u32 a0.1.2.2.2.2.2)) :: ((arC .u64 a0.2.1)++((.v (.int .i64 a0.2.2.1)) :: ((.v (.int .u32 a0.2.2.2.1)) :: ((.v (.int .u32 a0.2.2.2.2.1)) :: ((.v (.int .u32 a0.2.2.2.2.2.1)) :: ((.slice .no (List.map eapi_Checkpoint a0.2.2.2.2.2.2.1)) :: ((.v (.int .i64 a0.2.2.2.2.2.2.2.1)) :: ((.v (.int .i64 a0.2.2.2.2.2.2.2.2.1)) :: ((.v (.int .i64 a0.2.2.2.2.2.2.2.2.2)) :: []))))))))))))))],false,false⟩),(5,⟨0,69,[(.v (.int .u32 a2.1.1)) :: ((arC .u8 a2.1.2.1)++((arC .u8 a2.1.2.2.1)++((.v (.int .u32 a2.1.2.2.2.1)) :: ((.v (.int .u32 a2.1.2.2.2.2.1)) :: ((.v (.int .u32 a2.1.2.2.2.2.2)) :: ((.slice .no (List.map ZQ a2.2)) :: []))))))],false,false⟩),(6,⟨0,34,[(.v (.int .i64 0)) :: ((arC .u8 (zA 32))++((.slice .nil []) :: []))],false,false⟩),(7,⟨0,1,[[.slice .nil []]],false,false⟩),(10,⟨0,34,[(.v (.int .i64 (IntKind.i64.wrap (a1.1+1)))) :: ((arC .u8 y121)++((.slice .no (List.map Zs p111)) :: []))],false,false⟩),(11,⟨0,1,[[.ms 105 0 0 (p53.length) 37]],false,false⟩),(14,⟨0,4,[[.v (.int .u32 x168.1),.slice .no (List.map Zbs x168.2.1),.slice .no (List.map Y2 x168.2.2.1),.v (.int .u32 x168.2.2.2)]],false,false⟩),(105,⟨0,37,List.map Zs p53,false,true⟩)]:Boxes)⟩) hr166 ?_;rintro⟨p110,p111⟩ x201r hr201
       simp only[Zg1] at hr201;refine nst ?_;refine go ?_;by_cases c202:p110<(y191.1.length:Int)
       ·have c202N:=nrm c202
        replace hr201:=ifP hr201
        refine go ?_;obtain⟨_,⟨_,_,_⟩,hr201⟩:=bI hr201;refine go ?_;obtain⟨_,ehy204,hr201⟩:=bN hr201 K100.q2;obtain⟨_,ehy205,hr201⟩:=bN hr201 K99.q2;refine go ?_;exact bk hr201
       ·have c202N:=nrm c202
        replace hr201:=ifN hr201
        refine go ?_;obtain⟨r206,q206,rfl⟩:=ms hr201;refine go ?_;rintro rfl
        refine go ?_;unfold Zg0 at q206;obtain⟨_,q206⟩:=bC q206;have n1_u207_0:(p53.length+y191.1.length) * 88≤140737488355328:=by omega
        have n2_u207_0:p53.length+y191.1.length≤9223372036854775807:=by omega
        refine go ?_;exact jn 1000022 (J187 (IntKind.i64.wrap (p50+y193.1),p111,p53++y191.1) q206)
      ·replace hr166:=ifP hr166
       refine go ?_;exact fin hr166
     ·replace hr166:=ifP hr166
      refine go ?_;exact fin hr166
    ·replace hr166:=ifN hr166
     refine go ?_;exact jn 1000022 (J187 (p50,p52,p53) hr166)
  ·have c167N:=nrm c167
   replace hr166:=ifN hr166
   refine go ?_;obtain⟨r208,q208,rfl⟩:=ms hr166;refine go ?_;rintro rfl
   refine go ?_;unfold ZgZ at q208;refine go ?_;obtain⟨_,hx209,q208⟩:=bs q208;have hx209c:=Yb hx209;obtain⟨_,ehy210,q208⟩:=bN q208 K103.q2;obtain⟨y211,ehy211,q208⟩:=bN q208 K102.q1;refine go ?_;by_cases c212:p50<y211
   ·replace q208:=ifP q208
    refine go ?_;exact fin q208
   ·replace q208:=ifN q208
    refine go ?_;obtain⟨y213,ehy213,q208⟩:=bN q208 K102.q1;refine go ?_;by_cases c214:2100000000000000<y213
    ·replace q208:=ifP q208
     refine go ?_;exact fin q208
    ·replace q208:=ifN q208
     refine go ?_;by_cases c215:100000<(p52.length:Int)
     ·have c215N:=nrm c215
      replace q208:=ifP q208
      refine go ?_;exact fin q208
     ·have c215N:=nrm c215
      replace q208:=ifN q208
      refine go ?_;exact fin q208
 ·replace hr:=ifP hr
  refine go ?_;exact fin hr
end
theorem w107:Walk tt G [(110,K110.G)] (fun _=>[]) Tryz.f107 K107:=by
 refine .sk [] false Tryz.ntmps107 fun T hO hT ⟨a0,a1⟩ x hr=>?_
 simp only[Zh] at hT; simp only[kS,nfs] at hr ⊢;unfold Zgr at hr;refine go ?_;obtain⟨y2,ehy2,hr⟩:=bN hr K110.q1;by_cases c3:y2=true
 ·by_cases c4:0≤a1.1
  ·by_cases c5:a1.1≤16777216
   ·refine go ?_
    exact fin hr
   ·refine go ?_
    exact fin hr
  ·refine go ?_
   exact fin hr
 ·refine go ?_
  exact fin hr
theorem w53:Walk tt G [(9,K9.G),(107,K107.G)] (fun _=>[]) Tryz.f53 K53:=by
 refine .ak [] false Tryz.ntmps53 fun T hO hT ⟨a0,a1,a2⟩ x=>?_
 simp only[Zh] at hT; simp only[kS,nfs,Zb3,ZhI,Zc4];exact au
end Go.Proofs.YtbppknpnmjhjpaaGreatDoor
