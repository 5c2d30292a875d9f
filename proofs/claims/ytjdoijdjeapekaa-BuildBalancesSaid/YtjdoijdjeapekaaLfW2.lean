import Derived.Test.YtjdoijdjeapekaaLfK
import Derived.Test.YtjdoijdjeapekaaCode
namespace Go.Proofs.Ytjdoijdjeapekaa
open Go.RowKit
open Go.Av
open Go.Lc
set_option maxRecDepth 100000
set_option linter.unusedSimpArgs false
set_option linter.unusedVariables false
set_option maxHeartbeats 4000000
variable {G : Glob}
theorem w36 : Walk tt G [(47,K47.G),(48,K48.G),(49,K49.G),(50,K50.G),(51,K51.G)] (fun _=>[]) Try.f36 K36:=by
 refine .of [(4,⟨[1,2,5,25,26,27],[2,16],[]⟩),(11,⟨[1,2,5,50,51,52],[2,16],[]⟩),(20,⟨[5,77,78,79],[16],[]⟩),(24,⟨[5,77,78,79,91,92,93],[16],[]⟩)] true body36 Try.ntmps36 fun T hO hT ⟨a0,a1⟩ x hr=>⟨by simp,?_⟩
 simp only [tabAll] at hT; simp only at hr ⊢; unfold c36;unfold Ltx_encode at hr;refine goA ?_;obtain ⟨y127,ehy127,hr⟩:=bN hr G47_eq;refine goA ?_;obtain ⟨y128,ehy128,hr⟩:=bN hr G48_eq;obtain ⟨_,hr⟩:=bC hr;have n1_u129_0 : y127.length + y128.length≤140737488355328:=by omega
 have n2_u129_0 : y127.length + y128.length≤9223372036854775807:=by omega
 refine goA ?_;refine lp 4 (fun (⟨p16,p17⟩ : Int×(List Int))=>⟨(und 1++([.one (.v (.bool a1)),.ptr 2 0 0 0 4]++(und 2++([.one (.ms 16 0 0 (p17.length) 1)]++(und 19++([.one (.slice .no (List.map eapi_Input a0.2.1)),.one (.v (.int .i64 (a0.2.1.length : Int))),.one (.v (.int .i64 p16))]++(und 76)))))) : List PV),([(2,⟨0,4,[[.v (.int .u32 a0.1),.slice .no (List.map eapi_Input a0.2.1),.slice .no (List.map eapi_Output a0.2.2.1),.v (.int .u32 a0.2.2.2)]],false,false⟩),(16,⟨0,1,intsR .u8 p17,false,true⟩)] : Boxes)⟩) hr ?_;rintro ⟨p16,p17⟩ x138r hr138
 simp only [Ltx_encode_s1] at hr138;unfold b36_1;refine nst ?_;refine goA ?_;by_cases c139 : p16 < (a0.2.1.length : Int)
 ·have c139N:=nrm c139
  replace hr138:=ifP hr138
  refine goA ?_;obtain ⟨_,⟨_,_,_⟩,hr138⟩:=bI hr138;refine goA ?_;obtain ⟨y141,ehy141,hr138⟩:=bN hr138 G49_eq;obtain ⟨_,hr138⟩:=bC hr138;have n1_u142_0 : p17.length + y141.length≤140737488355328:=by omega
  have n2_u142_0 : p17.length + y141.length≤9223372036854775807:=by omega
  refine goA ?_;obtain ⟨y143,ehy143,hr138⟩:=bN hr138 G47_eq;obtain ⟨u144_0,hr138⟩:=bC hr138
  have n1_u144_0 : p17.length + (y141.length + y143.length)≤140737488355328:=by
   have h:=u144_0;try simp at h
   omega
  have n2_u144_0 : p17.length + (y141.length + y143.length)≤9223372036854775807:=by
   have h:=u144_0;try simp at h
   omega
  refine goA ?_;exact bk hr138
 ·have c139N:=nrm c139
  replace hr138:=ifN hr138
  refine goA ?_;obtain ⟨r145,q145,rfl⟩:=ms hr138;refine goA ?_;rintro rfl
  refine goA ?_;unfold Ltx_encode_k1 at q145;obtain ⟨y146,ehy146,q145⟩:=bN q145 G48_eq;obtain ⟨_,q145⟩:=bC q145;have n1_u147_0 : p17.length + y146.length≤140737488355328:=by omega
  have n2_u147_0 : p17.length + y146.length≤9223372036854775807:=by omega
  refine goA ?_;refine lp 11 (fun (⟨p37,p38⟩ : Int×(List Int))=>⟨(und 1++([.one (.v (.bool a1)),.ptr 2 0 0 0 4]++(und 2++([.one (.ms 16 0 0 (p38.length) 1)]++(und 44++([.one (.slice .no (List.map eapi_Output a0.2.2.1)),.one (.v (.int .i64 (a0.2.2.1.length : Int))),.one (.v (.int .i64 p37))]++(und 51)))))) : List PV),([(2,⟨0,4,[[.v (.int .u32 a0.1),.slice .no (List.map eapi_Input a0.2.1),.slice .no (List.map eapi_Output a0.2.2.1),.v (.int .u32 a0.2.2.2)]],false,false⟩),(16,⟨0,1,intsR .u8 p38,false,true⟩)] : Boxes)⟩) q145 ?_;rintro ⟨p37,p38⟩ x156r hr156
  simp only [Ltx_encode_s2] at hr156;unfold b36_2;refine nst ?_;refine goA ?_;by_cases c157 : p37 < (a0.2.2.1.length : Int)
  ·have c157N:=nrm c157
   replace hr156:=ifP hr156
   refine goA ?_;obtain ⟨_,⟨_,_,_⟩,hr156⟩:=bI hr156;refine goA ?_;obtain ⟨y159,ehy159,hr156⟩:=bN hr156 G50_eq;obtain ⟨_,hr156⟩:=bC hr156;have n1_u160_0 : p38.length + y159.length≤140737488355328:=by omega
   have n2_u160_0 : p38.length + y159.length≤9223372036854775807:=by omega
   refine goA ?_;obtain ⟨y161,ehy161,hr156⟩:=bN hr156 G51_eq;obtain ⟨u162_0,hr156⟩:=bC hr156
   have n1_u162_0 : p38.length + (y159.length + y161.length)≤140737488355328:=by
    have h:=u162_0;try simp at h
    omega
   have n2_u162_0 : p38.length + (y159.length + y161.length)≤9223372036854775807:=by
    have h:=u162_0;try simp at h
    omega
   refine goA ?_;exact bk hr156
  ·have c157N:=nrm c157
   replace hr156:=ifN hr156
   refine goA ?_;obtain ⟨r163,q163,rfl⟩:=ms hr156;refine goA ?_;rintro rfl
   refine goA ?_;unfold Ltx_encode_k2 at q163;obtain ⟨y164,ehy164,q163⟩:=bN q163 G47_eq;obtain ⟨_,q163⟩:=bC q163;have n1_u165_0 : p38.length + y164.length≤140737488355328:=by omega
   have n2_u165_0 : p38.length + y164.length≤9223372036854775807:=by omega
   refine goA ?_;by_cases c166 : a1 = true
   ·replace q163:=ifN q163
    refine goA ?_;refine lp 20 (fun (⟨p80,p81⟩ : Int×(List Int))=>⟨(und 5++([.one (.ms 16 0 0 (p81.length) 1)]++(und 71++([.one (.slice .no (List.map eapi_Input a0.2.1)),.one (.v (.int .i64 (a0.2.1.length : Int))),.one (.v (.int .i64 p80))]++(und 24)))) : List PV),([(16,⟨0,1,intsR .u8 p81,false,true⟩)] : Boxes)⟩) q163 ?_;rintro ⟨p80,p81⟩ x185r hr185
    simp only [Ltx_encode_s3] at hr185;unfold b36_3;refine nst ?_;refine goA ?_;by_cases c186 : p80 < (a0.2.1.length : Int)
    ·have c186N:=nrm c186
     replace hr185:=ifP hr185
     refine goA ?_;obtain ⟨x187,⟨_,_,_⟩,hr185⟩:=bI hr185;refine goA ?_;obtain ⟨y188,ehy188,hr185⟩:=bN hr185 G48_eq;obtain ⟨_,hr185⟩:=bC hr185;have n1_u189_0 : p81.length + y188.length≤140737488355328:=by omega
     have n2_u189_0 : p81.length + y188.length≤9223372036854775807:=by omega
     refine goA ?_;refine lp 24 (fun (⟨p109,p110⟩ : Int×(List Int))=>⟨(und 5++([.one (.ms 16 0 0 (p110.length) 1)]++(und 71++([.one (.slice .no (List.map eapi_Input a0.2.1)),.one (.v (.int .i64 (a0.2.1.length : Int))),.one (.v (.int .i64 p80))]++(und 11++([.one (.slice .no (List.map eS_I_u8 x187.2.2)),.one (.v (.int .i64 (x187.2.2.length : Int))),.one (.v (.int .i64 p109))]++(und 10)))))) : List PV),([(16,⟨0,1,intsR .u8 p110,false,true⟩)] : Boxes)⟩) hr185 ?_;rintro ⟨p109,p110⟩ x196r hr196
     simp only [Ltx_encode_s4] at hr196;unfold b36_4;refine nst ?_;refine goA ?_;by_cases c197 : p109 < (x187.2.2.length : Int)
     ·have c197N:=nrm c197
      replace hr196:=ifP hr196
      refine goA ?_;obtain ⟨_,⟨_,_,_⟩,hr196⟩:=bI hr196;refine goA ?_;obtain ⟨y199,ehy199,hr196⟩:=bN hr196 G51_eq;obtain ⟨_,hr196⟩:=bC hr196;have n1_u200_0 : p110.length + y199.length≤140737488355328:=by omega
      have n2_u200_0 : p110.length + y199.length≤9223372036854775807:=by omega
      refine goA ?_;exact bk hr196
     ·have c197N:=nrm c197
      replace hr196:=ifN hr196
      refine goA ?_;obtain ⟨r201,q201,rfl⟩:=ms hr196;refine goA ?_;rintro rfl
      refine goA ?_;unfold Ltx_encode_k4 at q201;refine goA ?_;exact bk q201
    ·have c186N:=nrm c186
     replace hr185:=ifN hr185
     refine goA ?_;obtain ⟨r202,q202,rfl⟩:=ms hr185;refine goA ?_;rintro rfl
     refine goA ?_;unfold Ltx_encode_k3 at q202;refine goA ?_;exact fin q202
   ·replace q163:=ifP q163
    refine goA ?_;exact fin q163
theorem w35 : Walk tt G [(36,K36.G)] (fun _=>[]) Try.f35 K35:=by
 refine .of [(4,⟨[1,20,21,22],[1],[]⟩),(10,⟨[1,37,38,39],[1],[]⟩),(15,⟨[1,37,38,39,48,49,50],[1],[]⟩)] false body35 Try.ntmps35 fun T hO hT a0 x hr=>⟨by simp,?_⟩
 simp only [tabAll] at hT; simp only at hr ⊢; unfold c35;unfold Ltx_fits at hr;refine go ?_;by_cases c35 : 64 < (a0.2.1.length : Int)
 ·have c35N:=nrm c35
  refine go ?_
  replace hr:=ifP hr
  refine go ?_;exact fin hr
 ·have c35N:=nrm c35
  refine go ?_;by_cases c36 : 64 < (a0.2.2.1.length : Int)
  ·have c36N:=nrm c36
   replace hr:=ifP hr
   refine go ?_;exact fin hr
  ·have c36N:=nrm c36
   replace hr:=ifN hr
   refine go ?_;refine lp 4 (fun (p4 : Int)=>⟨(und 1++([.ptr 1 0 0 0 4]++(und 18++([.one (.slice .no (List.map eapi_Output a0.2.2.1)),.one (.v (.int .i64 (a0.2.2.1.length : Int))),.one (.v (.int .i64 p4))]++(und 40)))) : List PV),([(1,⟨0,4,[[.v (.int .u32 a0.1),.slice .no (List.map eapi_Input a0.2.1),.slice .no (List.map eapi_Output a0.2.2.1),.v (.int .u32 a0.2.2.2)]],false,false⟩)] : Boxes)⟩) hr ?_;rintro p4 x43r hr43
   simp only [Ltx_fits_s1] at hr43;unfold b35_1;refine nst ?_;refine go ?_;by_cases c44 : p4 < (a0.2.2.1.length : Int)
   ·have c44N:=nrm c44
    replace hr43:=ifP hr43
    refine go ?_;obtain ⟨x45,⟨_,_,_⟩,hr43⟩:=bI hr43;refine go ?_;by_cases c46 : x45.1 < 0
    ·refine go ?_
     replace hr43:=ifP hr43
     refine go ?_;exact fin hr43
    ·refine go ?_
     by_cases c47 : 520 < (x45.2.length : Int)
     ·have c47N:=nrm c47
      replace hr43:=ifP hr43
      refine go ?_;exact fin hr43
     ·have c47N:=nrm c47
      replace hr43:=ifN hr43
      refine go ?_;exact bk hr43
   ·have c44N:=nrm c44
    replace hr43:=ifN hr43
    refine go ?_;obtain ⟨r48,q48,rfl⟩:=ms hr43;refine go ?_;rintro rfl
    refine go ?_;unfold Ltx_fits_k1 at q48;refine go ?_;refine lp 10 (fun (p19 : Int)=>⟨(und 1++([.ptr 1 0 0 0 4]++(und 35++([.one (.slice .no (List.map eapi_Input a0.2.1)),.one (.v (.int .i64 (a0.2.1.length : Int))),.one (.v (.int .i64 p19))]++(und 23)))) : List PV),([(1,⟨0,4,[[.v (.int .u32 a0.1),.slice .no (List.map eapi_Input a0.2.1),.slice .no (List.map eapi_Output a0.2.2.1),.v (.int .u32 a0.2.2.2)]],false,false⟩)] : Boxes)⟩) q48 ?_;rintro p19 x64r hr64
    simp only [Ltx_fits_s2] at hr64;unfold b35_2;refine nst ?_;refine go ?_;by_cases c65 : p19 < (a0.2.1.length : Int)
    ·have c65N:=nrm c65
     replace hr64:=ifP hr64
     refine go ?_;obtain ⟨x66,⟨_,_,_⟩,hr64⟩:=bI hr64;refine go ?_;by_cases c67 : 32 < (x66.2.2.length : Int)
     ·have c67N:=nrm c67
      replace hr64:=ifP hr64
      refine go ?_;exact fin hr64
     ·have c67N:=nrm c67
      replace hr64:=ifN hr64
      refine go ?_;refine lp 15 (fun (p31 : Int)=>⟨(und 1++([.ptr 1 0 0 0 4]++(und 35++([.one (.slice .no (List.map eapi_Input a0.2.1)),.one (.v (.int .i64 (a0.2.1.length : Int))),.one (.v (.int .i64 p19))]++(und 8++([.one (.slice .no (List.map eS_I_u8 x66.2.2)),.one (.v (.int .i64 (x66.2.2.length : Int))),.one (.v (.int .i64 p31))]++(und 12)))))) : List PV),([(1,⟨0,4,[[.v (.int .u32 a0.1),.slice .no (List.map eapi_Input a0.2.1),.slice .no (List.map eapi_Output a0.2.2.1),.v (.int .u32 a0.2.2.2)]],false,false⟩)] : Boxes)⟩) hr64 ?_;rintro p31 x73r hr73
      simp only [Ltx_fits_s3] at hr73;unfold b35_3;refine nst ?_;refine go ?_;by_cases c74 : p31 < (x66.2.2.length : Int)
      ·have c74N:=nrm c74
       replace hr73:=ifP hr73
       refine go ?_;obtain ⟨x75,⟨_,_,_⟩,hr73⟩:=bI hr73;refine go ?_;by_cases c76 : 520 < (x75.length : Int)
       ·have c76N:=nrm c76
        replace hr73:=ifP hr73
        refine go ?_;exact fin hr73
       ·have c76N:=nrm c76
        replace hr73:=ifN hr73
        refine go ?_;exact bk hr73
      ·have c74N:=nrm c74
       replace hr73:=ifN hr73
       refine go ?_;obtain ⟨r77,q77,rfl⟩:=ms hr73;refine go ?_;rintro rfl
       refine go ?_;unfold Ltx_fits_k3 at q77;refine go ?_;exact bk q77
    ·have c65N:=nrm c65
     replace hr64:=ifN hr64
     refine go ?_;obtain ⟨r78,q78,rfl⟩:=ms hr64;refine go ?_;rintro rfl
     refine go ?_;unfold Ltx_fits_k2 at q78;obtain ⟨_,ehy79,q78⟩:=bN q78 G36_eq;refine go ?_;exact fin q78
theorem w24 : Walk tt G [(35,K35.G),(36,K36.G)] (fun _=>[]) Try.f24 K24:=by
 refine .of [] false body24 Try.ntmps24 fun T hO hT a0 x hr=>⟨by simp,?_⟩
 simp only [tabAll] at hT; simp only at hr ⊢; unfold c24;unfold Ltx_Weight at hr;refine go ?_;obtain ⟨y4,ehy4,hr⟩:=bN hr G35_eq;refine go ?_;by_cases c5 : y4 = true
 ·replace hr:=ifN hr
  refine go ?_;obtain ⟨_,ehy6,hr⟩:=bN hr G36_eq;obtain ⟨_,ehy7,hr⟩:=bN hr G36_eq;refine go ?_;exact fin hr
 ·replace hr:=ifP hr
  refine go ?_;exact fin hr
end Go.Proofs.Ytjdoijdjeapekaa
