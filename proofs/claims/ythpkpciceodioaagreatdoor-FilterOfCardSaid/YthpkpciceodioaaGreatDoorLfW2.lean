import Derived.Test.YthpkpciceodioaaGreatDoorLfK
import Derived.Test.YthpkpciceodioaaGreatDoorCode
import Derived.Test.YthpkpciceodioaaGreatDoorBl
namespace Go.Proofs.YthpkpciceodioaaGreatDoor
open Go.RowKit
open Go.Av
open Go.Lc
set_option maxRecDepth 100000
set_option linter.unusedSimpArgs false
set_option linter.unusedVariables false
set_option maxHeartbeats 4000000
theorem w107:Walk tt G [(108,K108.G)] (fun _=>[]) Tryz.f107 K107:=by
 refine .of [(4,⟨[1,20,21,22],[1],[]⟩),(10,⟨[1,37,38,39],[1],[]⟩),(15,⟨[1,37,38,39,48,49,50],[1],[]⟩)] false body107 Tryz.ntmps107 fun T hO hT a0 x hr=>⟨by simp,?_⟩
 simp only [Zi] at hT; simp only at hr ⊢; unfold c107;unfold ZfZ at hr;refine go ?_;by_cases c35:64<(a0.2.1.length:Int)
 ·have c35N:=nrm c35
  refine go ?_
  replace hr:=ifP hr
  refine go ?_;exact fin hr
 ·have c35N:=nrm c35
  refine go ?_;by_cases c36:64<(a0.2.2.1.length:Int)
  ·have c36N:=nrm c36
   replace hr:=ifP hr
   refine go ?_;exact fin hr
  ·have c36N:=nrm c36
   replace hr:=ifN hr
   refine go ?_;refine lp 4 (fun (p4:Int)=>⟨(und 1++([.ptr 1 0 0 0 4]++(und 18++([.one (.slice .no (List.map Zr a0.2.2.1)),.one (.v (.int .i64 (a0.2.2.1.length:Int))),.one (.v (.int .i64 p4))]++(und 40)))):List PV),([(1,⟨0,4,[[.v (.int .u32 a0.1),.slice .no (List.map Zs a0.2.1),.slice .no (List.map Zr a0.2.2.1),.v (.int .u32 a0.2.2.2)]],false,false⟩)]:Boxes)⟩) hr ?_;rintro p4 x43r hr43
   simp only [Zdu] at hr43;unfold b107_1;refine nst ?_;refine go ?_;by_cases c44:p4<(a0.2.2.1.length:Int)
   ·have c44N:=nrm c44
    replace hr43:=ifP hr43
    refine go ?_;obtain ⟨x45,⟨_,_,_⟩,hr43⟩:=bI hr43;refine go ?_;by_cases c46:x45.1<0
    ·refine go ?_
     replace hr43:=ifP hr43
     refine go ?_;exact fin hr43
    ·refine go ?_
     by_cases c47:520<(x45.2.length:Int)
     ·have c47N:=nrm c47
      replace hr43:=ifP hr43
      refine go ?_;exact fin hr43
     ·have c47N:=nrm c47
      replace hr43:=ifN hr43
      refine go ?_;exact bk hr43
   ·have c44N:=nrm c44
    replace hr43:=ifN hr43
    refine go ?_;obtain ⟨r48,q48,rfl⟩:=ms hr43;refine go ?_;rintro rfl
    refine go ?_;unfold Zgo at q48;refine go ?_;refine lp 10 (fun (p19:Int)=>⟨(und 1++([.ptr 1 0 0 0 4]++(und 35++([.one (.slice .no (List.map Zs a0.2.1)),.one (.v (.int .i64 (a0.2.1.length:Int))),.one (.v (.int .i64 p19))]++(und 23)))):List PV),([(1,⟨0,4,[[.v (.int .u32 a0.1),.slice .no (List.map Zs a0.2.1),.slice .no (List.map Zr a0.2.2.1),.v (.int .u32 a0.2.2.2)]],false,false⟩)]:Boxes)⟩) q48 ?_;rintro p19 x64r hr64
    simp only [Zdt] at hr64;unfold b107_2;refine nst ?_;refine go ?_;by_cases c65:p19<(a0.2.1.length:Int)
    ·have c65N:=nrm c65
     replace hr64:=ifP hr64
     refine go ?_;obtain ⟨x66,⟨_,_,_⟩,hr64⟩:=bI hr64;refine go ?_;by_cases c67:32<(x66.2.2.length:Int)
     ·have c67N:=nrm c67
      replace hr64:=ifP hr64
      refine go ?_;exact fin hr64
     ·have c67N:=nrm c67
      replace hr64:=ifN hr64
      refine go ?_;refine lp 15 (fun (p31:Int)=>⟨(und 1++([.ptr 1 0 0 0 4]++(und 35++([.one (.slice .no (List.map Zs a0.2.1)),.one (.v (.int .i64 (a0.2.1.length:Int))),.one (.v (.int .i64 p19))]++(und 8++([.one (.slice .no (List.map ZJ x66.2.2)),.one (.v (.int .i64 (x66.2.2.length:Int))),.one (.v (.int .i64 p31))]++(und 12)))))):List PV),([(1,⟨0,4,[[.v (.int .u32 a0.1),.slice .no (List.map Zs a0.2.1),.slice .no (List.map Zr a0.2.2.1),.v (.int .u32 a0.2.2.2)]],false,false⟩)]:Boxes)⟩) hr64 ?_;rintro p31 x73r hr73
      simp only [Zcz] at hr73;unfold b107_3;refine nst ?_;refine go ?_;by_cases c74:p31<(x66.2.2.length:Int)
      ·have c74N:=nrm c74
       replace hr73:=ifP hr73
       refine go ?_;obtain ⟨x75,⟨_,_,_⟩,hr73⟩:=bI hr73;refine go ?_;by_cases c76:520<(x75.length:Int)
       ·have c76N:=nrm c76
        replace hr73:=ifP hr73
        refine go ?_;exact fin hr73
       ·have c76N:=nrm c76
        replace hr73:=ifN hr73
        refine go ?_;exact bk hr73
      ·have c74N:=nrm c74
       replace hr73:=ifN hr73
       refine go ?_;obtain ⟨r77,q77,rfl⟩:=ms hr73;refine go ?_;rintro rfl
       refine go ?_;unfold Zh4 at q77;refine go ?_;exact bk q77
    ·have c65N:=nrm c65
     replace hr64:=ifN hr64
     refine go ?_;obtain ⟨r78,q78,rfl⟩:=ms hr64;refine go ?_;rintro rfl
     refine go ?_;unfold Zgn at q78;obtain ⟨_,ehy79,q78⟩:=bN q78 ZoF;refine go ?_;exact fin q78
theorem w68:Walk tt G [(107,K107.G),(108,K108.G)] (fun _=>[]) Tryz.f68 K68:=by
 refine .of [] false body68 Tryz.ntmps68 fun T hO hT ⟨a0,a1⟩ x hr=>⟨by simp,?_⟩
 simp only [Zi] at hT; simp only at hr ⊢; unfold c68;unfold Zel at hr;refine go ?_;obtain ⟨y3,ehy3,hr⟩:=bN hr ZtF;refine go ?_;by_cases c4:y3=true
 ·replace hr:=ifN hr
  refine go ?_;obtain ⟨_,ehy5,hr⟩:=bN hr ZoF;refine go ?_;exact fin hr
 ·replace hr:=ifP hr
  refine go ?_;exact fin hr
theorem w35:Walk tt G [(56,K56.G),(67,K67.G),(68,K68.G)] (fun _=>[]) Tryz.f35 K35:=by
 refine .of [(5,⟨[4,22,23,24],[20],[]⟩)] false body35 Tryz.ntmps35 fun T hO hT a0 x hr=>⟨by simp,?_⟩
 simp only [Zi] at hT; simp only at hr ⊢; unfold c35;unfold Zcb at hr;refine go ?_;by_cases c19:256<(a0.2.length:Int)
 ·have c19N:=nrm c19
  replace hr:=ifP hr
  refine go ?_;exact fin hr
 ·have c19N:=nrm c19
  replace hr:=ifN hr
  refine go ?_;obtain ⟨_,ehy20,hr⟩:=bN hr ZqY;obtain ⟨_,ehy21,hr⟩:=bN hr ZjU;refine go ?_;refine lp 5 (fun (⟨p11,p12⟩:Int×(List Int))=>⟨(und 4++([.one (.ms 20 0 0 (p12.length) 1)]++(und 17++([.one (.slice .no (List.map YD a0.2)),.one (.v (.int .i64 (a0.2.length:Int))),.one (.v (.int .i64 p11))]++(und 18)))):List PV),([(20,⟨0,1,Zd .u8 p12,false,true⟩)]:Boxes)⟩) hr ?_;rintro ⟨p11,p12⟩ x29r hr29
  simp only [Za4] at hr29;unfold b35_1;refine nst ?_;refine go ?_;by_cases c30:p11<(a0.2.length:Int)
  ·have c30N:=nrm c30
   replace hr29:=ifP hr29
   refine go ?_;obtain ⟨_,⟨_,_,_⟩,hr29⟩:=bI hr29;refine go ?_;obtain ⟨y32,ehy32,hr29⟩:=bN hr29 Zu9;refine go ?_;rcases eqT (y32.2=0) with c33 | c33
   ·replace hr29:=ifN hr29
    refine go ?_;obtain ⟨_,hr29⟩:=bC hr29;have n1_u34_0:p12.length+y32.1.length≤140737488355328:=by omega
    have n2_u34_0:p12.length+y32.1.length≤9223372036854775807:=by omega
    refine go ?_;exact bk hr29
   ·replace hr29:=ifP hr29
    refine go ?_;exact fin hr29
  ·have c30N:=nrm c30
   replace hr29:=ifN hr29
   refine go ?_;obtain ⟨r35,q35,rfl⟩:=ms hr29;refine go ?_;rintro rfl
   refine go ?_;unfold Zfk at q35;refine go ?_;by_cases c36:100000<(p12.length:Int)
   ·have c36N:=nrm c36
    replace q35:=ifP q35
    refine go ?_;exact fin q35
   ·have c36N:=nrm c36
    replace q35:=ifN q35
    refine go ?_;exact fin q35
theorem w69:Walk tt G [] (fun _=>[]) Tryz.f69 K69:=by
 refine .of [(3,⟨[3,6,7,8],[],[]⟩)] false body69 Tryz.ntmps69 fun T hO hT a0 x hr=>⟨by simp,?_⟩
 simp only [Zi] at hT; simp only at hr ⊢; unfold c69;unfold ZaK at hr;refine go ?_;refine lp 3 (fun (⟨p7,p8⟩:Int×Int)=>⟨(und 3++([.one (.v (.int .u64 p7))]++(und 2++([.one (.slice .no (Zd .u8 a0)),.one (.v (.int .i64 (a0.length:Int))),.one (.v (.int .i64 p8))]++(und 13)))):List PV),([]:Boxes)⟩) hr ?_;rintro ⟨p7,p8⟩ x18r hr18
 simp only [Zd0] at hr18;unfold b69_1;refine nst ?_;refine go ?_;by_cases c19:p8<(a0.length:Int)
 ·have c19N:=nrm c19
  replace hr18:=ifP hr18
  refine go ?_;obtain ⟨_,⟨_,_,_⟩,hr18⟩:=bI hr18;refine go ?_;obtain ⟨_,hr18⟩:=bC hr18;refine go ?_;exact bk hr18
 ·have c19N:=nrm c19
  replace hr18:=ifN hr18
  refine go ?_;obtain ⟨r22,q22,rfl⟩:=ms hr18;refine go ?_;rintro rfl
  refine go ?_;unfold ZhE at q22;refine go ?_;exact fin q22
theorem w36:Walk tt G [(69,K69.G)] (fun _=>[]) Tryz.f36 K36:=by
 refine .of [] false body36 Tryz.ntmps36 fun T hO hT a0 x hr=>⟨by simp,?_⟩
 simp only [Zi] at hT; simp only at hr ⊢; unfold c36;unfold Zf6 at hr;refine go ?_;obtain ⟨_,ehy3,hr⟩:=bN hr Zlt;obtain ⟨_,ehy4,hr⟩:=bN hr Zlt;refine go ?_;exact fin hr
theorem w153:Walk tt G [] (fun _=>[]) Tryz.f153 K153:=by
 refine .of [(3,⟨[3,6,7,8],[14],[(3,none,14,1)]⟩)] true body153 Tryz.ntmps153 fun T hO hT a0 x hr=>⟨by simp,?_⟩
 simp only [Zi] at hT; simp only at hr ⊢; unfold c153;unfold Zf1 at hr;refine go ?_;refine lp 3 (fun (⟨p7,p8⟩:Int×(List Int))=>⟨(und 3++([.one (.ms 14 0 0 (p8.length) 1)]++(und 2++([.one (.slice .no (List.map ZJ a0)),.one (.v (.int .i64 (a0.length:Int))),.one (.v (.int .i64 p7))]++(und 8)))):List PV),([(14,⟨0,1,Zd .u8 p8,false,true⟩)]:Boxes)⟩) hr ?_;rintro ⟨p7,p8⟩ x18r hr18
 simp only [ZeJ] at hr18;unfold b153_1;refine nst ?_;refine go ?_;by_cases c19:p7<(a0.length:Int)
 ·have c19N:=nrm c19
  replace hr18:=ifP hr18
  refine go ?_;obtain ⟨x20,⟨_,_,_⟩,hr18⟩:=bI hr18;refine go ?_;obtain ⟨_,hr18⟩:=bC hr18;have n1_u21_0:p8.length+x20.length≤140737488355328:=by omega
  have n2_u21_0:p8.length+x20.length≤9223372036854775807:=by omega
  refine go ?_;exact bk hr18
 ·have c19N:=nrm c19
  replace hr18:=ifN hr18
  refine go ?_;obtain ⟨r22,q22,rfl⟩:=ms hr18;refine go ?_;rintro rfl
  refine go ?_;unfold Zkq at q22;refine go ?_;exact fin q22
theorem w154:Walk tt G [] (fun _=>[]) Tryz.f154 K154:=by
 refine .of [(5,⟨[0,4,18],[15],[]⟩)] true body154 Tryz.ntmps154 fun T hO hT a0 x hr=>⟨by simp,?_⟩
 simp only [Zi] at hT; simp only at hr ⊢; unfold c154;unfold Zf2 at hr;refine go ?_;obtain ⟨⟨_,_,_⟩,hr⟩:=bC hr;have mf16:(IntKind.u64.wrap (1+((IntKind.u64.wrap (64-((IntKind.u64.wrap (a0+9)).tmod 64))).tmod 64))).toNat≤(IntKind.u64.wrap (9+((IntKind.u64.wrap (64-((IntKind.u64.wrap (a0+9)).tmod 64))).tmod 64))).toNat:=by omega
 have mf17:(IntKind.u64.wrap (9+((IntKind.u64.wrap (64-((IntKind.u64.wrap (a0+9)).tmod 64))).tmod 64))).toNat≤140737488355328:=by omega
 have mf18:(IntKind.u64.wrap (9+((IntKind.u64.wrap (64-((IntKind.u64.wrap (a0+9)).tmod 64))).tmod 64))).toNat≤9223372036854775807:=by omega
 have mf19:0≤IntKind.u64.wrap (9+((IntKind.u64.wrap (64-((IntKind.u64.wrap (a0+9)).tmod 64))).tmod 64)):=by omega
 refine go ?_;obtain ⟨u20_0,hr⟩:=bC hr;have su20_0:0<IntKind.u64.wrap (1+((IntKind.u64.wrap (64-((IntKind.u64.wrap (a0+9)).tmod 64))).tmod 64)):=by have h:=u20_0; rw [List.length_replicate] at h; omega
 refine go ?_;refine lp 5 (fun (⟨p9,p10⟩:Int×(List Int))=>⟨([.one (.v (.int .u64 a0))]++(und 3++([.one (.ms 15 0 0 (p10.length) 1)]++(und 13++([.one (.v (.int .i64 p9))]++(und 14))))):List PV),([(15,⟨0,1,Zd .u8 p10,false,true⟩)]:Boxes)⟩) hr ?_;rintro ⟨p9,p10⟩ x26r hr26
 simp only [ZeK] at hr26;unfold b154_1;refine nst ?_;refine go ?_;by_cases c27:p9<8
 ·replace hr26:=ifP hr26
  refine go ?_;obtain ⟨_,hr26⟩:=bC hr26;obtain ⟨_,hr26⟩:=bC hr26;have n1_u29_0:p10.length+1≤140737488355328:=by omega
  have n2_u29_0:p10.length+1≤9223372036854775807:=by omega
  refine go ?_;exact bk hr26
 ·replace hr26:=ifN hr26
  refine go ?_;obtain ⟨r30,q30,rfl⟩:=ms hr26;refine go ?_;rintro rfl
  refine go ?_;unfold Zkr at q30;refine go ?_;exact fin q30
theorem w227:Walk tt G [] (fun _=>[]) Tryz.f227 K227:=by
 refine .of [] false body227 Tryz.ntmps227 fun T hO hT ⟨a0,a1⟩ x hr=>⟨by simp,?_⟩
 simp only [Zi] at hT; simp only at hr ⊢; unfold c227;unfold Xp at hr;refine go ?_;obtain ⟨_,hr⟩:=bC hr;obtain ⟨_,hr⟩:=bC hr;refine go ?_;exact fin hr
theorem w198:Walk tt G [(227,K227.G)] (fun _=>[]) Tryz.f198 K198:=by
 refine .of [] false body198 Tryz.ntmps198 fun T hO hT ⟨a0,a1⟩ x hr=>⟨by simp,?_⟩
 simp only [Zi] at hT; simp only at hr ⊢; unfold c198;unfold X1 at hr;refine go ?_;obtain ⟨_,ehy2,hr⟩:=bN hr ZoG;refine go ?_;exact fin hr
theorem w197:Walk tt G [(198,K198.G)] (fun _=>[]) Tryz.f197 K197:=by
 refine .of [(3,⟨[1,2,3,9],[1,2,3],[]⟩),(6,⟨[1,2,3,4,9,12],[1,2,3],[]⟩),(12,⟨[2,3,6],[2,3],[]⟩)] false body197 Tryz.ntmps197 fun T hO hT a0 x hr=>⟨by simp,?_⟩
 simp only [Zi] at hT; simp only at hr ⊢; unfold c197;unfold Zb8 at hr;refine go ?_;refine lp 3 (fun (⟨p20,p21⟩:Int×(Arr 64))=>⟨(und 1++([.ptr 1 0 0 0 64,.ptr 2 0 0 0 64,.ptr 3 0 0 0 64]++(und 5++([.one (.v (.int .i64 p20))]++(und 75)))):List PV),([(1,⟨0,64,[arC .u8 a0],false,false⟩),(2,⟨0,64,[arC .u32 (zA 64)],false,false⟩),(3,⟨0,64,[arC .u32 p21],false,false⟩)]:Boxes)⟩) hr ?_;rintro ⟨p20,p21⟩ x106r hr106
 simp only [ZbW] at hr106;unfold b197_1;refine nst ?_;refine go ?_;by_cases c107:p20<16
 ·replace hr106:=ifP hr106
  refine go ?_;refine lp 6 (fun (⟨p77,p78⟩:Int×(Arr 64))=>⟨(und 1++([.ptr 1 0 0 0 64,.ptr 2 0 0 0 64,.ptr 3 0 0 0 64,.one (.v (.int .i64 p20))]++(und 4++([.one (.v (.int .i64 p20))]++(und 2++([.one (.v (.int .i64 p77))]++(und 72)))))):List PV),([(1,⟨0,64,[arC .u8 a0],false,false⟩),(2,⟨0,64,[arC .u32 (zA 64)],false,false⟩),(3,⟨0,64,[arC .u32 p78],false,false⟩)]:Boxes)⟩) hr106 ?_;rintro ⟨p77,p78⟩ x118r hr118
  simp only [Zat] at hr118;unfold b197_2;refine nst ?_;refine go ?_;by_cases c119:p77<4
  ·replace hr118:=ifP hr118
   refine go ?_;obtain ⟨j120,⟨_,_,_⟩,hr118⟩:=bA hr118;have j120d:j120≤63:=by omega
   obtain ⟨j123,⟨_,_,_⟩,hr118⟩:=bA hr118;have j123d:j123≤63:=by omega
   have j120d:j120≤63:=by omega
   refine go ?_;exact bk hr118
  ·replace hr118:=ifN hr118
   refine go ?_;obtain ⟨r127,q127,rfl⟩:=ms hr118;refine go ?_;rintro rfl
   refine go ?_;unfold Zff at q127;refine go ?_;exact bk q127
 ·replace hr106:=ifN hr106
  refine go ?_;obtain ⟨r128,q128,rfl⟩:=ms hr106;refine go ?_;rintro rfl
  refine go ?_;unfold Zc3 at q128;refine go ?_;refine lp 12 (fun (⟨p51,p52⟩:Int×(Arr 64))=>⟨(und 2++([.ptr 2 0 0 0 64,.ptr 3 0 0 0 64]++(und 2++([.one (.v (.int .i64 p51))]++(und 78)))):List PV),([(2,⟨0,64,[arC .u32 (zA 64)],false,false⟩),(3,⟨0,64,[arC .u32 p52],false,false⟩)]:Boxes)⟩) q128 ?_;rintro ⟨p51,p52⟩ x158r hr158
  simp only [Lsha_schedule_s2] at hr158;unfold b197_3;refine nst ?_;refine go ?_;by_cases c159:p51<64
  ·replace hr158:=ifP hr158
   refine go ?_;obtain ⟨j160,⟨_,_,_⟩,hr158⟩:=bA hr158;have j160d:j160≤63:=by omega
   obtain ⟨_,ehy163,hr158⟩:=bN hr158 ZdJ;have j160d:j160≤63:=by omega
   obtain ⟨_,ehy166,hr158⟩:=bN hr158 ZdJ;have j160d:j160≤63:=by omega
   refine go ?_;obtain ⟨j169,⟨_,_,_⟩,hr158⟩:=bA hr158;have j169d:j169≤63:=by omega
   obtain ⟨_,ehy172,hr158⟩:=bN hr158 ZdJ;have j169d:j169≤63:=by omega
   obtain ⟨_,ehy175,hr158⟩:=bN hr158 ZdJ;have j169d:j169≤63:=by omega
   refine go ?_;obtain ⟨j178,⟨_,_,_⟩,hr158⟩:=bA hr158;have j178d:j178≤63:=by omega
   obtain ⟨j181,⟨_,_,_⟩,hr158⟩:=bA hr158;have j181d:j181≤63:=by omega
   obtain ⟨j184,⟨_,_,_⟩,hr158⟩:=bA hr158;have j184d:j184≤63:=by omega
   refine go ?_;exact bk hr158
  ·replace hr158:=ifN hr158
   refine go ?_;obtain ⟨r186,q186,rfl⟩:=ms hr158;refine go ?_;rintro rfl
   refine go ?_;unfold ZhC at q186;refine go ?_;exact fin q186
theorem w155:Walk tt G [(197,K197.G),(198,K198.G)] (fun _=>[]) Tryz.f155 K155:=by
 refine .of [(5,⟨[2,4,5,6,7,8,9,10,11,12,13,35],[2,4,5],[]⟩)] false body155 Tryz.ntmps155 fun T hO hT ⟨a0,a1⟩ x hr=>⟨by simp,?_⟩
 simp only [Zi] at hT; simp only at hr ⊢; unfold c155;unfold Zb9 at hr;refine go ?_;obtain ⟨y47,ehy47,hr⟩:=bN hr ZtI;refine go ?_;refine lp 5 (fun (⟨p24,p25,p26,p27,p28,p29,p30,p31,p32⟩:Int×Int×Int×Int×Int×Int×Int×Int×Int)=>⟨(und 2++([.ptr 2 0 0 0 8]++(und 1++([.ptr 4 0 0 0 8,.ptr 5 0 0 0 64,.one (.v (.int .u32 p24)),.one (.v (.int .u32 p25)),.one (.v (.int .u32 p26)),.one (.v (.int .u32 p27)),.one (.v (.int .u32 p28)),.one (.v (.int .u32 p29)),.one (.v (.int .u32 p30)),.one (.v (.int .u32 p31))]++(und 21++([.one (.v (.int .i64 p32))]++(und 95)))))):List PV),([(2,⟨0,8,[arC .u32 a0],false,false⟩),(4,⟨0,8,[arC .u32 (zA 8)],false,false⟩),(5,⟨0,64,[arC .u32 y47],false,false⟩)]:Boxes)⟩) hr ?_;rintro ⟨p24,p25,p26,p27,p28,p29,p30,p31,p32⟩ x78r hr78
 simp only [ZbX] at hr78;unfold b155_1;refine nst ?_;refine go ?_;by_cases c79:p32<64
 ·replace hr78:=ifP hr78
  refine go ?_;obtain ⟨_,ehy80,hr78⟩:=bN hr78 ZdJ;obtain ⟨_,ehy81,hr78⟩:=bN hr78 ZdJ;obtain ⟨_,ehy82,hr78⟩:=bN hr78 ZdJ;obtain ⟨j83,⟨_,_,_⟩,hr78⟩:=bA hr78;have j83d:j83≤63:=by omega
  have j83d:j83≤63:=by omega
  refine go ?_;obtain ⟨_,ehy88,hr78⟩:=bN hr78 ZdJ;obtain ⟨_,ehy89,hr78⟩:=bN hr78 ZdJ;obtain ⟨_,ehy90,hr78⟩:=bN hr78 ZdJ;refine go ?_;exact bk hr78
 ·replace hr78:=ifN hr78
  refine go ?_;obtain ⟨r91,q91,rfl⟩:=ms hr78;refine go ?_;rintro rfl
  refine go ?_;unfold ZhD at q91;refine go ?_;exact fin q91
theorem w105:Walk tt G [(153,K153.G),(154,K154.G),(155,K155.G)] (fun _=>[]) Tryz.f105 K105:=by
 refine .of [(4,⟨[2,3,4,18,19],[2,4,14],[]⟩),(10,⟨[2,4,6,31],[2,4,6],[]⟩)] false body105 Tryz.ntmps105 fun T hO hT a0 x hr=>⟨by simp,?_⟩
 simp only [Zi] at hT; simp only at hr ⊢; unfold c105;unfold Zfg at hr;refine ZbC ?_;obtain ⟨_,ehy34,hr⟩:=bN hr ZtH;obtain ⟨y35,ehy35,hr⟩:=bN hr ZtG;refine ZbC ?_;refine lp 4 (fun (⟨p11,p12⟩:Int×(Arr 8))=>⟨(und 2++([.ptr 2 0 0 0 32,.one (.ms 14 0 0 (y35.length) 1),.ptr 4 0 0 0 8]++(und 13++([.one (.v (.int .i64 (IntKind.i64.wrap (((y35.length:Int)).tdiv 64)))),.one (.v (.int .i64 p11))]++(und 28)))):List PV),([(2,⟨0,32,[arC .u8 (zA 32)],false,false⟩),(4,⟨0,8,[arC .u32 p12],false,false⟩),(14,⟨0,1,Zd .u8 y35,false,true⟩)]:Boxes)⟩) hr ?_;rintro ⟨p11,p12⟩ x44r hr44
 simp only [ZeM] at hr44;unfold b105_1;refine nst ?_;refine ZbC ?_;by_cases c45:p11<IntKind.i64.wrap (((y35.length:Int)).tdiv 64)
 ·have c45N:=nrm c45
  replace hr44:=ifP hr44
  refine ZbC ?_;obtain ⟨⟨_,_⟩,hr44⟩:=bC hr44;have sf47:(IntKind.i64.wrap (64 * p11)).toNat≤y35.length:=by omega
  obtain ⟨_,hr44⟩:=bC hr44;have fp49:=Zql (k:=.u8) (l:=y35) (o:=(IntKind.i64.wrap (64 * p11)).toNat) (n:=64) (by omega);have fp49l:(IntKind.i64.wrap (64 * p11)).toNat+64≤y35.length:=by omega
  obtain ⟨_,ehy50,hr44⟩:=bN hr44 ZtJ;refine ZbC ?_;exact bk hr44
 ·have c45N:=nrm c45
  replace hr44:=ifN hr44
  refine ZbC ?_;obtain ⟨r51,q51,rfl⟩:=ms hr44;refine ZbC ?_;rintro rfl
  refine ZbC ?_;unfold Zgq at q51;refine ZbC ?_;refine lp 10 (fun (⟨p23,p24⟩:Int×(Arr 32))=>⟨(und 2++([.ptr 2 0 0 0 32]++(und 1++([.ptr 4 0 0 0 8]++(und 1++([.ptr 6 0 0 0 32]++(und 24++([.one (.v (.int .i64 p23))]++(und 16)))))))):List PV),([(2,⟨0,32,[arC .u8 (zA 32)],false,false⟩),(4,⟨0,8,[arC .u32 p12],false,false⟩),(6,⟨0,32,[arC .u8 p24],false,false⟩)]:Boxes)⟩) q51 ?_;rintro ⟨p23,p24⟩ x61r hr61
  simp only [ZeL] at hr61;unfold b105_2;refine nst ?_;refine ZbC ?_;by_cases c62:p23<32
  ·replace hr61:=ifP hr61
   refine ZbC ?_;obtain ⟨j63,⟨_,_,_⟩,hr61⟩:=bA hr61;have j63d:j63≤7:=by omega
   obtain ⟨_,hr61⟩:=bC hr61;obtain ⟨j67,⟨_,_,_⟩,hr61⟩:=bA hr61;have j67d:j67≤31:=by omega
   refine ZbC ?_;exact bk hr61
  ·replace hr61:=ifN hr61
   refine ZbC ?_;obtain ⟨r69,q69,rfl⟩:=ms hr61;refine ZbC ?_;rintro rfl
   refine ZbC ?_;unfold Zks at q69;refine ZbC ?_;exact fin q69
theorem w65:Walk tt G [(105,K105.G)] (fun _=>[]) Tryz.f65 K65:=by
 refine .of [] false body65 Tryz.ntmps65 fun T hO hT a0 x hr=>⟨by simp,?_⟩
 simp only [Zi] at hT; simp only at hr ⊢; unfold c65;unfold Zdv at hr;refine go ?_;obtain ⟨_,ehy3,hr⟩:=bN hr ZoH;refine go ?_;obtain ⟨_,ehy4,hr⟩:=bN hr ZoH;refine go ?_;exact fin hr
theorem w37:Walk tt G [(65,K65.G),(67,K67.G)] (fun _=>[]) Tryz.f37 K37:=by
 refine .of [] false body37 Tryz.ntmps37 fun T hO hT a0 x hr=>⟨by simp,?_⟩
 simp only [Zi] at hT; simp only at hr ⊢; unfold c37;unfold ZbJ at hr;refine go ?_;obtain ⟨_,ehy3,hr⟩:=bN hr ZqY;obtain ⟨_,ehy4,hr⟩:=bN hr Zvc;refine go ?_;exact fin hr
theorem w199:Walk tt G [] (fun _=>[]) Tryz.f199 K199:=by
 refine .of [] false body199 Tryz.ntmps199 fun T hO hT a0 x hr=>⟨by simp,?_⟩
 simp only [Zi] at hT; simp only at hr ⊢; unfold c199;unfold Zab at hr;refine go ?_;exact fin hr
theorem w156:Walk tt G [(199,K199.G)] (fun _=>[]) Tryz.f156 K156:=by
 refine .of [] false body156 Tryz.ntmps156 fun T hO hT ⟨a0,a1⟩ x hr=>⟨by simp,?_⟩
 simp only [Zi] at hT; simp only at hr ⊢; unfold c156;unfold ZL at hr;refine go ?_;obtain ⟨y4,ehy4,hr⟩:=bN hr ZoI;by_cases c5:y4=true
 ·replace hr:=ZiY hr
  obtain ⟨_,hz6,hr⟩:=bs hr;obtain ⟨y7,ehy7,hz6⟩:=bN hz6 ZoI;obtain rfl:=Option.some.inj hz6;by_cases c8:y7=true
  ·refine go ?_
   exact fin hr
  ·refine go ?_
   exact fin hr
 ·replace hr:=ZiZ hr
  obtain ⟨_,hz9,hr⟩:=bs hr;obtain rfl:=Option.some.inj hz9;refine go ?_;exact fin hr
theorem w109:Walk tt G [(156,K156.G)] (fun _=>[]) Tryz.f109 K109:=by
 refine .of [(2,⟨[0,3],[],[]⟩)] false body109 Tryz.ntmps109 fun T hO hT a0 x hr=>⟨by simp,?_⟩
 simp only [Zi] at hT; simp only at hr ⊢; unfold c109;unfold YM at hr;refine go ?_;refine lp 2 (fun (p8:Int)=>⟨([.one (.slice .no (Zd .u64 a0))]++(und 2++([.one (.v (.int .i64 p8))]++(und 17))):List PV),([]:Boxes)⟩) hr ?_;rintro p8 x22r hr22
 simp only [Yj] at hr22;unfold b109_1;refine nst ?_;refine go ?_;by_cases c23:0<p8
 ·replace hr22:=ifP hr22
  refine go ?_;obtain ⟨_,⟨_,_,_⟩,hr22⟩:=bI hr22;obtain ⟨_,⟨_,_,_⟩,hr22⟩:=bI hr22;obtain ⟨y26,ehy26,hr22⟩:=bN hr22 Zal;refine go ?_;by_cases c27:y26=true
  ·replace hr22:=ifP hr22
   refine go ?_;exact fin hr22
  ·replace hr22:=ifN hr22
   refine go ?_;exact bk hr22
 ·replace hr22:=ifN hr22
  refine go ?_;obtain ⟨r28,q28,rfl⟩:=ms hr22;refine go ?_;rintro rfl
  refine go ?_;unfold Lslices_IsSorted_of__uint64_uint64_k1 at q28;refine go ?_;exact fin q28
theorem w157:Walk tt G [] (fun _=>[]) Tryz.f157 K157:=by
 refine .of [] false body157 Tryz.ntmps157 fun T hO hT a0 x hr=>⟨by simp,?_⟩
 simp only [Zi] at hT; simp only at hr ⊢; unfold c157;unfold Zdw at hr;refine Xd ?_;by_cases c4:a0.2<0
 ·refine Xd ?_
  replace hr:=ifP hr
  refine Xd ?_;exact fin hr
 ·by_cases c5:1600000<a0.2
  ·refine Xd ?_
   replace hr:=ifP hr
   refine Xd ?_;exact fin hr
  ·refine Xd ?_
   rcases eqT ((a0.1.length:Int)=IntKind.i64.wrap ((IntKind.i64.wrap (a0.2+7)).tdiv 8)) with c6 | c6
   ·have c6N:=nrm c6
    replace hr:=ifN hr
    refine Xd ?_;rcases eqT ((a0.2).tmod 8=0) with c7 | c7
    ·replace hr:=ZiY hr
     obtain ⟨_,hz8,hr⟩:=bs hr;obtain rfl:=Option.some.inj hz8;refine Xd ?_;exact fin hr
    ·replace hr:=ZiZ hr
     obtain ⟨_,hz9,hr⟩:=bs hr;obtain ⟨_,⟨_,_,_⟩,hz9⟩:=bI hz9;obtain ⟨_,hz9⟩:=bC hz9;obtain rfl:=Option.some.inj hz9;refine Xd ?_;exact fin hr
   ·have c6N:=nrm c6
    replace hr:=ifP hr
    refine Xd ?_;exact fin hr
theorem w158:Walk tt G [] (fun _=>[]) Tryz.f158 K158:=by
 refine .of [] true body158 Tryz.ntmps158 fun T hO hT a0 x hr=>⟨by simp,?_⟩
 simp only [Zi] at hT; simp only at hr ⊢; unfold c158;unfold Zdx at hr;refine go ?_;obtain ⟨⟨_,_⟩,hr⟩:=bC hr;have mf3:a0.1.length≤140737488355328:=by omega
 have mf4:a0.1.length≤9223372036854775807:=by omega
 have mf5:((a0.1.length:Int)).toNat≤140737488355328:=by omega
 have mf6:((a0.1.length:Int)).toNat≤9223372036854775807:=by omega
 have mf7:0≤(a0.1.length:Int):=by omega
 refine go ?_;exact fin hr
theorem w159_1:Walk tt G [] (fun _=>[]) Tryz.f159 K159_1:=by
 refine .of [(1000002,⟨[0,1],[1000000,67000000],[]⟩),(1000004,⟨[0],[1000000,67000000],[]⟩)] false body159 Tryz.ntmps159 fun T hO hT ⟨a0,a1⟩ x hr=>⟨by simp,?_⟩
 simp only [Zi] at hT; simp only at hr ⊢; unfold c159;unfold X2 at hr;refine go ?_;refine ZaU hr (fun (s:(List Int))=>match s with | p2=>(⟨([.ptr 1000000 0 0 0 2,.one (.v (.bool a1))]++(und 52):List PV),([(1000000,⟨0,2,[[.ms 67000000 0 0 (p2.length) 1,.v (.int .i64 a0.2)]],false,false⟩),(67000000,⟨0,1,Zd .u8 p2,false,true⟩)]:Boxes)⟩:ASt)) (fun (s:(List Int))=>match s with | p2=>Xu a1 a0 p2) ?_ ?_
 ·rintro p2 hk13
  change Xu a1 a0 p2=_ at hk13
  refine nst ?_;unfold Xu at hk13;refine go ?_;refine Xe rfl (kq:=⟨[0,1],[1000000,67000000],[]⟩) rfl (by simp [Yq, *]; rfl) (by simp [*]; rfl) ?_;refine ZaU hk13 (fun (s:(List Int))=>match s with | p6=>(⟨([.ptr 1000000 0 0 0 2]++(und 53):List PV),([(1000000,⟨0,2,[[.ms 67000000 0 0 (p6.length) 1,.v (.int .i64 a0.2)]],false,false⟩),(67000000,⟨0,1,Zd .u8 p6,false,true⟩)]:Boxes)⟩:ASt)) (fun (s:(List Int))=>match s with | p6=>XH a0 p6) ?_ ?_
  ·rintro p6 hk18
   change XH a0 p6=_ at hk18
   refine nst ?_;unfold XH at hk18;refine Zeh rfl (kq:=⟨[0],[1000000,67000000],[]⟩) rfl (by simp [Yq, *]; rfl) (by simp [*]; rfl) ?_;exact fin hk18
  ·intro J18
   by_cases c19:a1=true
   ·replace hk13:=ifP hk13
    refine go ?_;obtain ⟨j20,⟨_,_,_⟩,hk13⟩:=bA hk13;obtain ⟨x21,hx21,hk13⟩:=bs hk13;have ghx21:=Zk hx21;obtain ⟨_,hk13⟩:=bC hk13;refine go ?_;exact jn 1000004 (J18 ((p2).set j20 (bits .or .u8 x21 ((128:Int).fdiv (2 ^ (min ((a0.2).tmod 8).toNat 8))))) hk13)
   ·replace hk13:=ifN hk13
    refine go ?_;exact jn 1000004 (J18 p2 hk13)
 ·intro J13
  rcases eqT ((a0.2).tmod 8=0) with c23 | c23
  ·replace hr:=ifP hr
   refine go ?_;obtain ⟨_,hr⟩:=bC hr;have n1_u24_0:a0.1.length+1≤140737488355328:=by omega
   have n2_u24_0:a0.1.length+1≤9223372036854775807:=by omega
   refine go ?_;exact jn 1000002 (J13 (a0.1++[0]) hr)
  ·replace hr:=ifN hr
   refine go ?_;exact jn 1000002 (J13 a0.1 hr)
theorem w160_2:Walk tt G [(159,K159_1.G)] (fun d=>if d=20 then [[1]] else []) Tryz.f160 K160_2:=by
 refine .of [(1,⟨[0,1,2,7,8],[1000000,67000000],[]⟩)] false body160 Tryz.ntmps160 fun T hO hT ⟨a0,a1,a2⟩ x hr=>⟨by simp,?_⟩
 simp only [Zi] at hT; simp only at hr ⊢; unfold c160;unfold Zaj at hr;refine go ?_;refine lp 1 (fun (⟨p8,p9,p10⟩:Int×Int×(List Int))=>⟨([.ptr 1000000 0 0 0 2,.one (.v (.int .u64 a1)),.one (.v (.int .i64 a2))]++(und 4++([.one (.v (.int .i64 a2)),.one (.v (.int .i64 p8))]++(und 13))):List PV),([(1000000,⟨0,2,[[.ms 67000000 0 0 (p10.length) 1,.v (.int .i64 p9)]],false,false⟩),(67000000,⟨0,1,Zd .u8 p10,false,true⟩)]:Boxes)⟩) hr ?_;rintro ⟨p8,p9,p10⟩ x13r hr13
 simp only [Zam] at hr13;unfold b160_1;refine nst ?_;refine go ?_;by_cases c14:p8<a2
 ·replace hr13:=ifP hr13
  refine go ?_;obtain ⟨_,hr13⟩:=bC hr13;obtain ⟨_,ehy16,hr13⟩:=bN hr13 ZjV;refine go ?_;exact bk hr13
 ·replace hr13:=ifN hr13
  refine go ?_;exact fin hr13
end Go.Proofs.YthpkpciceodioaaGreatDoor
