import Derived.Test.YtjdoijdjeapekaaGreatDoorLfK
import Derived.Test.YtjdoijdjeapekaaGreatDoorCode
namespace Go.Proofs.YtjdoijdjeapekaaGreatDoor
open Go.RowKit
open Go.Av
open Go.Lc
set_option maxRecDepth 100000
set_option linter.unusedSimpArgs false
set_option linter.unusedVariables false
set_option maxHeartbeats 4000000
theorem w39 : Walk tt G [] (fun _=>[]) Tryz.f39 K39:=by
 refine .of [] false body39 Tryz.ntmps39 fun T hO hT a0 x hr=>⟨by simp,?_⟩
 simp only [tabAll] at hT; simp only at hr ⊢; unfold c39;unfold Lreplace_Signals_1 at hr;refine go ?_;exact fin hr
theorem w73_1 : Walk tt G [(39,K39.G)] (fun _=>[]) Tryz.f73 K73_1:=by
 refine .of [(2,⟨[0,1,7,8],[],[]⟩)] false body73 Tryz.ntmps73 fun T hO hT a0 x hr=>⟨by simp,?_⟩
 simp only [tabAll] at hT; simp only at hr ⊢; unfold c73;unfold Lslices_IndexFunc_of__api_Input_api_Input__replace_Signals_1 at hr;refine go ?_;refine lp 2 (fun (p6 : Int)=>⟨([.one (.slice .no (List.map eapi_Input a0)),.fn 39]++(und 5++([.one (.v (.int .i64 (a0.length : Int))),.one (.v (.int .i64 p6))]++(und 10))) : List PV),([] : Boxes)⟩) hr ?_;rintro p6 x17r hr17
 simp only [Lslices_IndexFunc_of__api_Input_api_Input__replace_Signals_1_s1] at hr17;unfold b73_1;refine nst ?_;refine go ?_;by_cases c18 : p6 < (a0.length : Int)
 ·have c18N:=nrm c18
  replace hr17:=ifP hr17
  refine go ?_;obtain ⟨_,⟨_,_,_⟩,hr17⟩:=bI hr17;obtain ⟨y20,ehy20,hr17⟩:=bN hr17 G39_eq;refine go ?_;by_cases c21 : y20 = true
  ·replace hr17:=ifP hr17
   refine go ?_;exact fin hr17
  ·replace hr17:=ifN hr17
   refine go ?_;exact bk hr17
 ·have c18N:=nrm c18
  replace hr17:=ifN hr17
  refine go ?_;obtain ⟨r22,q22,rfl⟩:=ms hr17;refine go ?_;rintro rfl
  refine go ?_;unfold Lslices_IndexFunc_of__api_Input_api_Input__replace_Signals_1_k1 at q22;refine go ?_;exact fin q22
theorem w38_2 : Walk tt G [(73,K73_1.G)] (fun _=>[]) Tryz.f38 K38_2:=by
 refine .of [] false body38 Tryz.ntmps38 fun T hO hT a0 x hr=>⟨by simp,?_⟩
 simp only [tabAll] at hT; simp only at hr ⊢; unfold c38;unfold Lslices_ContainsFunc_of__api_Input_api_Input__replace_Signals_1 at hr;refine go ?_;obtain ⟨_,ehy2,hr⟩:=bN hr G73_1_eq;refine go ?_;exact fin hr
theorem w16 : Walk tt G [(38,K38_2.G)] (fun _=>[]) Tryz.f16 K16:=by
 refine .of [] false body16 Tryz.ntmps16 fun T hO hT a0 x hr=>⟨by simp,?_⟩
 simp only [tabAll] at hT; simp only at hr ⊢; unfold c16;unfold Lreplace_Signals at hr;refine go ?_;obtain ⟨_,ehy2,hr⟩:=bN hr G38_2_eq;refine go ?_;exact fin hr
theorem w41_3 : Walk tt G [] (fun _=>[]) Tryz.f41 K41_3:=by
 refine .of [] false body41 Tryz.ntmps41 fun T hO hT ⟨a0,a1⟩ x hr=>⟨by simp,?_⟩
 simp only [tabAll] at hT; simp only at hr ⊢; unfold c41;unfold Lreplace_Conflict_1_1__r at hr;refine go ?_;exact fin hr
theorem w73_4 : Walk tt G [(41,K41_3.G)] (fun _=>[]) Tryz.f73 K73_4:=by
 refine .of [(2,⟨[0,1,7,8],[],[]⟩)] false body73 Tryz.ntmps73 fun T hO hT ⟨a0,a1⟩ x hr=>⟨by simp,?_⟩
 simp only [tabAll] at hT; simp only at hr ⊢; unfold c73;unfold Lslices_IndexFunc_of__api_Input_api_Input__replace_Conflict_1_1 at hr;refine go ?_;refine lp 2 (fun (p6 : Int)=>⟨([.one (.slice .no (List.map eapi_Input a0)),.clo 41 [.ref ((arC .u8 a1.1.1)++((.v (.int .u32 a1.1.2)) :: ((.v (.int .u32 a1.2.1)) :: ((.slice .no (List.map eS_I_u8 a1.2.2)) :: []))))]]++(und 5++([.one (.v (.int .i64 (a0.length : Int))),.one (.v (.int .i64 p6))]++(und 10))) : List PV),([] : Boxes)⟩) hr ?_;rintro p6 x17r hr17
 simp only [Lslices_IndexFunc_of__api_Input_api_Input__replace_Conflict_1_1_s1] at hr17;unfold b73_1;refine nst ?_;refine go ?_;by_cases c18 : p6 < (a0.length : Int)
 ·have c18N:=nrm c18
  replace hr17:=ifP hr17
  refine go ?_;obtain ⟨_,⟨_,_,_⟩,hr17⟩:=bI hr17;obtain ⟨y20,ehy20,hr17⟩:=bN hr17 G41_3_eq;refine go ?_;by_cases c21 : y20 = true
  ·replace hr17:=ifP hr17
   refine go ?_;exact fin hr17
  ·replace hr17:=ifN hr17
   refine go ?_;exact bk hr17
 ·have c18N:=nrm c18
  replace hr17:=ifN hr17
  refine go ?_;obtain ⟨r22,q22,rfl⟩:=ms hr17;refine go ?_;rintro rfl
  refine go ?_;unfold Lslices_IndexFunc_of__api_Input_api_Input__replace_Conflict_1_1_k1 at q22;refine go ?_;exact fin q22
theorem w38_5 : Walk tt G [(73,K73_4.G)] (fun _=>[]) Tryz.f38 K38_5:=by
 refine .of [] false body38 Tryz.ntmps38 fun T hO hT ⟨a0,a1⟩ x hr=>⟨by simp,?_⟩
 simp only [tabAll] at hT; simp only at hr ⊢; unfold c38;unfold Lslices_ContainsFunc_of__api_Input_api_Input__replace_Conflict_1_1 at hr;refine go ?_;obtain ⟨_,ehy2,hr⟩:=bN hr G73_4_eq;refine go ?_;exact fin hr
theorem w40_6 : Walk tt G [(38,K38_5.G)] (fun _=>[]) Tryz.f40 K40_6:=by
 refine .of [] false body40 Tryz.ntmps40 fun T hO hT ⟨a0,a1⟩ x hr=>⟨by simp,?_⟩
 simp only [tabAll] at hT; simp only at hr ⊢; unfold c40;unfold Lreplace_Conflict_1__r at hr;refine go ?_;obtain ⟨_,ehy2,hr⟩:=bN hr G38_5_eq;refine go ?_;exact fin hr
theorem w73_7 : Walk tt G [(40,K40_6.G)] (fun _=>[]) Tryz.f73 K73_7:=by
 refine .of [(2,⟨[0,1,7,8],[],[]⟩)] false body73 Tryz.ntmps73 fun T hO hT ⟨a0,a1⟩ x hr=>⟨by simp,?_⟩
 simp only [tabAll] at hT; simp only at hr ⊢; unfold c73;unfold Lslices_IndexFunc_of__api_Input_api_Input__replace_Conflict_1 at hr;refine go ?_;refine lp 2 (fun (p6 : Int)=>⟨([.one (.slice .no (List.map eapi_Input a0)),.clo 40 [.ref ([.v (.int .u32 a1.1),.slice .no (List.map eapi_Input a1.2.1),.slice .no (List.map eapi_Output a1.2.2.1),.v (.int .u32 a1.2.2.2)])]]++(und 5++([.one (.v (.int .i64 (a0.length : Int))),.one (.v (.int .i64 p6))]++(und 10))) : List PV),([] : Boxes)⟩) hr ?_;rintro p6 x17r hr17
 simp only [Lslices_IndexFunc_of__api_Input_api_Input__replace_Conflict_1_s1] at hr17;unfold b73_1;refine nst ?_;refine go ?_;by_cases c18 : p6 < (a0.length : Int)
 ·have c18N:=nrm c18
  replace hr17:=ifP hr17
  refine go ?_;obtain ⟨_,⟨_,_,_⟩,hr17⟩:=bI hr17;obtain ⟨y20,ehy20,hr17⟩:=bN hr17 G40_6_eq;refine go ?_;by_cases c21 : y20 = true
  ·replace hr17:=ifP hr17
   refine go ?_;exact fin hr17
  ·replace hr17:=ifN hr17
   refine go ?_;exact bk hr17
 ·have c18N:=nrm c18
  replace hr17:=ifN hr17
  refine go ?_;obtain ⟨r22,q22,rfl⟩:=ms hr17;refine go ?_;rintro rfl
  refine go ?_;unfold Lslices_IndexFunc_of__api_Input_api_Input__replace_Conflict_1_k1 at q22;refine go ?_;exact fin q22
theorem w38_8 : Walk tt G [(73,K73_7.G)] (fun _=>[]) Tryz.f38 K38_8:=by
 refine .of [] false body38 Tryz.ntmps38 fun T hO hT ⟨a0,a1⟩ x hr=>⟨by simp,?_⟩
 simp only [tabAll] at hT; simp only at hr ⊢; unfold c38;unfold Lslices_ContainsFunc_of__api_Input_api_Input__replace_Conflict_1 at hr;refine go ?_;obtain ⟨_,ehy2,hr⟩:=bN hr G73_7_eq;refine go ?_;exact fin hr
theorem w17 : Walk tt G [(38,K38_8.G)] (fun _=>[]) Tryz.f17 K17:=by
 refine .of [] false body17 Tryz.ntmps17 fun T hO hT ⟨a0,a1⟩ x hr=>⟨by simp,?_⟩
 simp only [tabAll] at hT; simp only at hr ⊢; unfold c17;unfold Lreplace_Conflict at hr;refine go ?_;obtain ⟨_,ehy2,hr⟩:=bN hr G38_8_eq;refine go ?_;exact fin hr
theorem w76 : Walk tt G [] (fun _=>[]) Tryz.f76 K76:=by
 refine .of [] false body76 Tryz.ntmps76 fun T hO hT a0 x hr=>⟨by simp,?_⟩
 simp only [tabAll] at hT; simp only at hr ⊢; unfold c76;unfold Ltx_null at hr;refine go ?_;exact fin hr
theorem w46 : Walk tt G [(76,K76.G)] (fun _=>[]) Tryz.f46 K46:=by
 refine .of [] false body46 Tryz.ntmps46 fun T hO hT a0 x hr=>⟨by simp,?_⟩
 simp only [tabAll] at hT; simp only at hr ⊢; unfold c46;unfold Ltx_Coinbase at hr;refine go ?_;rcases eqT ((a0.2.1.length : Int) = 1) with c4 | c4
 ·have c4N:=nrm c4
  replace hr:=ifPb hr
  obtain ⟨_,hz5,hr⟩:=bs hr;obtain ⟨_,hx6,hz5⟩:=bs hz5;have hx6c:=getE_of hx6;obtain ⟨_,ehy7,hz5⟩:=bN hz5 G76_eq;obtain rfl:=Option.some.inj hz5;refine go ?_;exact fin hr
 ·have c4N:=nrm c4
  replace hr:=ifNb hr
  obtain ⟨_,hz8,hr⟩:=bs hr;obtain rfl:=Option.some.inj hz8;refine go ?_;exact fin hr
theorem w113 : Walk tt G [] (fun _=>[]) Tryz.f113 K113:=by
 refine .of [] true body113 Tryz.ntmps113 fun T hO hT ⟨a0,a1⟩ x hr=>⟨by simp,?_⟩
 simp only [tabAll] at hT; simp only at hr ⊢; unfold c113;unfold Lcodec_extend at hr;refine go ?_;obtain ⟨⟨_,_⟩,hr⟩:=bC hr;have mf5 : 0≤(IntKind.i64.wrap ((a0.length : Int) + (a1.length : Int))).toNat:=by omega
 have mf6 : (IntKind.i64.wrap ((a0.length : Int) + (a1.length : Int))).toNat≤140737488355328:=by omega
 have mf7 : (IntKind.i64.wrap ((a0.length : Int) + (a1.length : Int))).toNat≤9223372036854775807:=by omega
 have mf8 : 0≤IntKind.i64.wrap ((a0.length : Int) + (a1.length : Int)):=by omega
 refine go ?_;obtain ⟨_,hr⟩:=bC hr;have n1_u9_0 : a0.length≤140737488355328:=by omega
 have n2_u9_0 : a0.length≤9223372036854775807:=by omega
 refine go ?_;obtain ⟨_,hr⟩:=bC hr;have n1_u10_0 : a0.length + a1.length≤140737488355328:=by omega
 have n2_u10_0 : a0.length + a1.length≤9223372036854775807:=by omega
 refine go ?_;exact fin hr
theorem w114 : Walk tt G [] (fun _=>[]) Tryz.f114 K114:=by
 refine .of [(3,⟨[0,5,9,10],[8],[]⟩)] true body114 Tryz.ntmps114 fun T hO hT ⟨a0,a1⟩ x hr=>⟨by simp,?_⟩
 simp only [tabAll] at hT; simp only at hr ⊢; unfold c114;unfold Lcodec_lowest at hr;refine go ?_;obtain ⟨⟨_,_⟩,hr⟩:=bC hr;have mf15 : (a1).toNat≤140737488355328:=by omega
 have mf16 : (a1).toNat≤9223372036854775807:=by omega
 have mf17 : 0≤a1:=by omega
 refine go ?_;refine lp 3 (fun (⟨p8,p9⟩ : Int×(List Int))=>⟨([.one (.v (.int .u64 a0))]++(und 4++([.one (.ms 8 0 0 (p9.length) 1)]++(und 3++([.one (.v (.int .i64 a1)),.one (.v (.int .i64 p8))]++(und 12))))) : List PV),([(8,⟨0,1,intsR .u8 p9,false,true⟩)] : Boxes)⟩) hr ?_;rintro ⟨p8,p9⟩ x23r hr23
 simp only [Lcodec_lowest_s1] at hr23;unfold b114_1;refine nst ?_;refine go ?_;by_cases c24 : p8 < a1
 ·replace hr23:=ifP hr23
  refine go ?_;obtain ⟨_,hr23⟩:=bC hr23;obtain ⟨_,⟨_,_,_⟩,hr23⟩:=bA hr23;refine go ?_;exact bk hr23
 ·replace hr23:=ifN hr23
  refine go ?_;obtain ⟨r27,q27,rfl⟩:=ms hr23;refine go ?_;rintro rfl
  refine go ?_;unfold Lcodec_lowest_k1 at q27;refine go ?_;exact fin q27
theorem w102 : Walk tt G [(113,K113.G),(114,K114.G)] (fun _=>[]) Tryz.f102 K102:=by
 refine .of [] true body102 Tryz.ntmps102 fun T hO hT ⟨a0,a1⟩ x hr=>⟨by simp,?_⟩
 simp only [tabAll] at hT; simp only at hr ⊢; unfold c102;unfold Lcodec_AppendU32 at hr;refine go ?_;obtain ⟨_,ehy3,hr⟩:=bN hr G114_eq;obtain ⟨_,ehy4,hr⟩:=bN hr G113_eq;refine go ?_;exact fin hr
theorem w105 : Walk tt G [(113,K113.G),(114,K114.G)] (fun _=>[]) Tryz.f105 K105:=by
 refine .of [] true body105 Tryz.ntmps105 fun T hO hT ⟨a0,a1⟩ x hr=>⟨by simp,?_⟩
 simp only [tabAll] at hT; simp only at hr ⊢; unfold c105;unfold Lcodec_AppendU64 at hr;refine go ?_;obtain ⟨_,ehy3,hr⟩:=bN hr G114_eq;obtain ⟨_,ehy4,hr⟩:=bN hr G113_eq;refine go ?_;exact fin hr
theorem w115 : Walk tt G [(113,K113.G),(114,K114.G)] (fun _=>[]) Tryz.f115 K115:=by
 refine .of [] true body115 Tryz.ntmps115 fun T hO hT ⟨a0,a1⟩ x hr=>⟨by simp,?_⟩
 simp only [tabAll] at hT; simp only at hr ⊢; unfold c115;unfold Lcodec_AppendU16 at hr;refine go ?_;obtain ⟨_,ehy3,hr⟩:=bN hr G114_eq;obtain ⟨_,ehy4,hr⟩:=bN hr G113_eq;refine go ?_;exact fin hr
theorem w103 : Walk tt G [(102,K102.G),(105,K105.G),(113,K113.G),(115,K115.G)] (fun _=>[]) Tryz.f103 K103:=by
 refine .of [] true body103 Tryz.ntmps103 fun T hO hT ⟨a0,a1⟩ x hr=>⟨by simp,?_⟩
 simp only [tabAll] at hT; simp only at hr ⊢; unfold c103;unfold Lcodec_AppendSize at hr;refine go ?_;by_cases c8 : a1 < 253
 ·replace hr:=ifP hr
  refine go ?_;obtain ⟨_,ehy9,hr⟩:=bN hr G113_eq;refine go ?_;exact fin hr
 ·replace hr:=ifN hr
  refine go ?_;by_cases c10 : a1 < 65536
  ·replace hr:=ifP hr
   refine go ?_;obtain ⟨_,ehy11,hr⟩:=bN hr G113_eq;obtain ⟨_,ehy12,hr⟩:=bN hr G115_eq;refine go ?_;exact fin hr
  ·replace hr:=ifN hr
   refine go ?_;by_cases c13 : a1 < 4294967296
   ·replace hr:=ifP hr
    refine go ?_;obtain ⟨_,ehy14,hr⟩:=bN hr G113_eq;obtain ⟨_,ehy15,hr⟩:=bN hr G102_eq;refine go ?_;exact fin hr
   ·replace hr:=ifN hr
    refine go ?_;obtain ⟨_,ehy16,hr⟩:=bN hr G113_eq;obtain ⟨_,ehy17,hr⟩:=bN hr G105_eq;refine go ?_;exact fin hr
theorem w116 : Walk tt G [(113,K113.G)] (fun _=>[]) Tryz.f116 K116:=by
 refine .of [] true body116 Tryz.ntmps116 fun T hO hT ⟨a0,a1⟩ x hr=>⟨by simp,?_⟩
 simp only [tabAll] at hT; simp only at hr ⊢; unfold c116;unfold Lcodec_AppendHash at hr;refine go ?_;obtain ⟨_,ehy2,hr⟩:=bN hr G113_eq;refine go ?_;exact fin hr
theorem w104 : Walk tt G [(102,K102.G),(116,K116.G)] (fun _=>[]) Tryz.f104 K104:=by
 refine .of [] true body104 Tryz.ntmps104 fun T hO hT a0 x hr=>⟨by simp,?_⟩
 simp only [tabAll] at hT; simp only at hr ⊢; unfold c104;unfold Ltx_Point at hr;refine go ?_;obtain ⟨_,ehy3,hr⟩:=bN hr G116_eq;obtain ⟨_,ehy4,hr⟩:=bN hr G102_eq;refine go ?_;exact fin hr
theorem w106 : Walk tt G [(103,K103.G),(113,K113.G)] (fun _=>[]) Tryz.f106 K106:=by
 refine .of [] true body106 Tryz.ntmps106 fun T hO hT ⟨a0,a1⟩ x hr=>⟨by simp,?_⟩
 simp only [tabAll] at hT; simp only at hr ⊢; unfold c106;unfold Lcodec_AppendBytes at hr;refine go ?_;obtain ⟨_,ehy3,hr⟩:=bN hr G103_eq;obtain ⟨_,ehy4,hr⟩:=bN hr G113_eq;refine go ?_;exact fin hr
theorem w93 : Walk tt G [(102,K102.G),(103,K103.G),(104,K104.G),(105,K105.G),(106,K106.G)] (fun _=>[]) Tryz.f93 K93:=by
 refine .of [(4,⟨[1,2,5,25,26,27],[2,16],[]⟩),(11,⟨[1,2,5,50,51,52],[2,16],[]⟩),(20,⟨[5,77,78,79],[16],[]⟩),(24,⟨[5,77,78,79,91,92,93],[16],[]⟩)] true body93 Tryz.ntmps93 fun T hO hT ⟨a0,a1⟩ x hr=>⟨by simp,?_⟩
 simp only [tabAll] at hT; simp only at hr ⊢; unfold c93;unfold Ltx_encode at hr;refine goA ?_;obtain ⟨y127,ehy127,hr⟩:=bN hr G102_eq;refine goA ?_;obtain ⟨y128,ehy128,hr⟩:=bN hr G103_eq;obtain ⟨_,hr⟩:=bC hr;have n1_u129_0 : y127.length + y128.length≤140737488355328:=by omega
 have n2_u129_0 : y127.length + y128.length≤9223372036854775807:=by omega
 refine goA ?_;refine lp 4 (fun (⟨p16,p17⟩ : Int×(List Int))=>⟨(und 1++([.one (.v (.bool a1)),.ptr 2 0 0 0 4]++(und 2++([.one (.ms 16 0 0 (p17.length) 1)]++(und 19++([.one (.slice .no (List.map eapi_Input a0.2.1)),.one (.v (.int .i64 (a0.2.1.length : Int))),.one (.v (.int .i64 p16))]++(und 76)))))) : List PV),([(2,⟨0,4,[[.v (.int .u32 a0.1),.slice .no (List.map eapi_Input a0.2.1),.slice .no (List.map eapi_Output a0.2.2.1),.v (.int .u32 a0.2.2.2)]],false,false⟩),(16,⟨0,1,intsR .u8 p17,false,true⟩)] : Boxes)⟩) hr ?_;rintro ⟨p16,p17⟩ x138r hr138
 simp only [Ltx_encode_s1] at hr138;unfold b93_1;refine nst ?_;refine goA ?_;by_cases c139 : p16 < (a0.2.1.length : Int)
 ·have c139N:=nrm c139
  replace hr138:=ifP hr138
  refine goA ?_;obtain ⟨_,⟨_,_,_⟩,hr138⟩:=bI hr138;refine goA ?_;obtain ⟨y141,ehy141,hr138⟩:=bN hr138 G104_eq;obtain ⟨_,hr138⟩:=bC hr138;have n1_u142_0 : p17.length + y141.length≤140737488355328:=by omega
  have n2_u142_0 : p17.length + y141.length≤9223372036854775807:=by omega
  refine goA ?_;obtain ⟨y143,ehy143,hr138⟩:=bN hr138 G102_eq;obtain ⟨u144_0,hr138⟩:=bC hr138
  have n1_u144_0 : p17.length + (y141.length + y143.length)≤140737488355328:=by
   have h:=u144_0;try simp at h
   omega
  have n2_u144_0 : p17.length + (y141.length + y143.length)≤9223372036854775807:=by
   have h:=u144_0;try simp at h
   omega
  refine goA ?_;exact bk hr138
 ·have c139N:=nrm c139
  replace hr138:=ifN hr138
  refine goA ?_;obtain ⟨r145,q145,rfl⟩:=ms hr138;refine goA ?_;rintro rfl
  refine goA ?_;unfold Ltx_encode_k1 at q145;obtain ⟨y146,ehy146,q145⟩:=bN q145 G103_eq;obtain ⟨_,q145⟩:=bC q145;have n1_u147_0 : p17.length + y146.length≤140737488355328:=by omega
  have n2_u147_0 : p17.length + y146.length≤9223372036854775807:=by omega
  refine goA ?_;refine lp 11 (fun (⟨p37,p38⟩ : Int×(List Int))=>⟨(und 1++([.one (.v (.bool a1)),.ptr 2 0 0 0 4]++(und 2++([.one (.ms 16 0 0 (p38.length) 1)]++(und 44++([.one (.slice .no (List.map eapi_Output a0.2.2.1)),.one (.v (.int .i64 (a0.2.2.1.length : Int))),.one (.v (.int .i64 p37))]++(und 51)))))) : List PV),([(2,⟨0,4,[[.v (.int .u32 a0.1),.slice .no (List.map eapi_Input a0.2.1),.slice .no (List.map eapi_Output a0.2.2.1),.v (.int .u32 a0.2.2.2)]],false,false⟩),(16,⟨0,1,intsR .u8 p38,false,true⟩)] : Boxes)⟩) q145 ?_;rintro ⟨p37,p38⟩ x156r hr156
  simp only [Ltx_encode_s2] at hr156;unfold b93_2;refine nst ?_;refine goA ?_;by_cases c157 : p37 < (a0.2.2.1.length : Int)
  ·have c157N:=nrm c157
   replace hr156:=ifP hr156
   refine goA ?_;obtain ⟨_,⟨_,_,_⟩,hr156⟩:=bI hr156;refine goA ?_;obtain ⟨y159,ehy159,hr156⟩:=bN hr156 G105_eq;obtain ⟨_,hr156⟩:=bC hr156;have n1_u160_0 : p38.length + y159.length≤140737488355328:=by omega
   have n2_u160_0 : p38.length + y159.length≤9223372036854775807:=by omega
   refine goA ?_;obtain ⟨y161,ehy161,hr156⟩:=bN hr156 G106_eq;obtain ⟨u162_0,hr156⟩:=bC hr156
   have n1_u162_0 : p38.length + (y159.length + y161.length)≤140737488355328:=by
    have h:=u162_0;try simp at h
    omega
   have n2_u162_0 : p38.length + (y159.length + y161.length)≤9223372036854775807:=by
    have h:=u162_0;try simp at h
    omega
   refine goA ?_;exact bk hr156
  ·have c157N:=nrm c157
   replace hr156:=ifN hr156
   refine goA ?_;obtain ⟨r163,q163,rfl⟩:=ms hr156;refine goA ?_;rintro rfl
   refine goA ?_;unfold Ltx_encode_k2 at q163;obtain ⟨y164,ehy164,q163⟩:=bN q163 G102_eq;obtain ⟨_,q163⟩:=bC q163;have n1_u165_0 : p38.length + y164.length≤140737488355328:=by omega
   have n2_u165_0 : p38.length + y164.length≤9223372036854775807:=by omega
   refine goA ?_;by_cases c166 : a1 = true
   ·replace q163:=ifN q163
    refine goA ?_;refine lp 20 (fun (⟨p80,p81⟩ : Int×(List Int))=>⟨(und 5++([.one (.ms 16 0 0 (p81.length) 1)]++(und 71++([.one (.slice .no (List.map eapi_Input a0.2.1)),.one (.v (.int .i64 (a0.2.1.length : Int))),.one (.v (.int .i64 p80))]++(und 24)))) : List PV),([(16,⟨0,1,intsR .u8 p81,false,true⟩)] : Boxes)⟩) q163 ?_;rintro ⟨p80,p81⟩ x185r hr185
    simp only [Ltx_encode_s3] at hr185;unfold b93_3;refine nst ?_;refine goA ?_;by_cases c186 : p80 < (a0.2.1.length : Int)
    ·have c186N:=nrm c186
     replace hr185:=ifP hr185
     refine goA ?_;obtain ⟨x187,⟨_,_,_⟩,hr185⟩:=bI hr185;refine goA ?_;obtain ⟨y188,ehy188,hr185⟩:=bN hr185 G103_eq;obtain ⟨_,hr185⟩:=bC hr185;have n1_u189_0 : p81.length + y188.length≤140737488355328:=by omega
     have n2_u189_0 : p81.length + y188.length≤9223372036854775807:=by omega
     refine goA ?_;refine lp 24 (fun (⟨p109,p110⟩ : Int×(List Int))=>⟨(und 5++([.one (.ms 16 0 0 (p110.length) 1)]++(und 71++([.one (.slice .no (List.map eapi_Input a0.2.1)),.one (.v (.int .i64 (a0.2.1.length : Int))),.one (.v (.int .i64 p80))]++(und 11++([.one (.slice .no (List.map eS_I_u8 x187.2.2)),.one (.v (.int .i64 (x187.2.2.length : Int))),.one (.v (.int .i64 p109))]++(und 10)))))) : List PV),([(16,⟨0,1,intsR .u8 p110,false,true⟩)] : Boxes)⟩) hr185 ?_;rintro ⟨p109,p110⟩ x196r hr196
     simp only [Ltx_encode_s4] at hr196;unfold b93_4;refine nst ?_;refine goA ?_;by_cases c197 : p109 < (x187.2.2.length : Int)
     ·have c197N:=nrm c197
      replace hr196:=ifP hr196
      refine goA ?_;obtain ⟨_,⟨_,_,_⟩,hr196⟩:=bI hr196;refine goA ?_;obtain ⟨y199,ehy199,hr196⟩:=bN hr196 G106_eq;obtain ⟨_,hr196⟩:=bC hr196;have n1_u200_0 : p110.length + y199.length≤140737488355328:=by omega
      have n2_u200_0 : p110.length + y199.length≤9223372036854775807:=by omega
      refine goA ?_;exact bk hr196
     ·have c197N:=nrm c197
      replace hr196:=ifN hr196
      refine goA ?_;obtain ⟨r201,q201,rfl⟩:=ms hr196;refine goA ?_;rintro rfl
      refine goA ?_;unfold Ltx_encode_k4 at q201;refine goA ?_;exact bk q201
    ·have c186N:=nrm c186
     replace hr185:=ifN hr185
     refine goA ?_;obtain ⟨r202,q202,rfl⟩:=ms hr185;refine goA ?_;rintro rfl
     refine goA ?_;unfold Ltx_encode_k3 at q202;refine goA ?_;exact fin q202
   ·replace q163:=ifP q163
    refine goA ?_;exact fin q163
theorem w74 : Walk tt G [(93,K93.G)] (fun _=>[]) Tryz.f74 K74:=by
 refine .of [(4,⟨[1,20,21,22],[1],[]⟩),(10,⟨[1,37,38,39],[1],[]⟩),(15,⟨[1,37,38,39,48,49,50],[1],[]⟩)] false body74 Tryz.ntmps74 fun T hO hT a0 x hr=>⟨by simp,?_⟩
 simp only [tabAll] at hT; simp only at hr ⊢; unfold c74;unfold Ltx_fits at hr;refine go ?_;by_cases c35 : 64 < (a0.2.1.length : Int)
 ·have c35N:=nrm c35
  refine go ?_
  replace hr:=ifP hr
  refine go ?_;exact fin hr
 ·have c35N:=nrm c35
  refine go ?_;by_cases c36 : 64 < (a0.2.2.1.length : Int)
  ·have c36N:=nrm c36
   replace hr:=ifP hr
   refine go ?_;exact fin hr
  ·have c36N:=nrm c36
   replace hr:=ifN hr
   refine go ?_;refine lp 4 (fun (p4 : Int)=>⟨(und 1++([.ptr 1 0 0 0 4]++(und 18++([.one (.slice .no (List.map eapi_Output a0.2.2.1)),.one (.v (.int .i64 (a0.2.2.1.length : Int))),.one (.v (.int .i64 p4))]++(und 40)))) : List PV),([(1,⟨0,4,[[.v (.int .u32 a0.1),.slice .no (List.map eapi_Input a0.2.1),.slice .no (List.map eapi_Output a0.2.2.1),.v (.int .u32 a0.2.2.2)]],false,false⟩)] : Boxes)⟩) hr ?_;rintro p4 x43r hr43
   simp only [Ltx_fits_s1] at hr43;unfold b74_1;refine nst ?_;refine go ?_;by_cases c44 : p4 < (a0.2.2.1.length : Int)
   ·have c44N:=nrm c44
    replace hr43:=ifP hr43
    refine go ?_;obtain ⟨x45,⟨_,_,_⟩,hr43⟩:=bI hr43;refine go ?_;by_cases c46 : x45.1 < 0
    ·refine go ?_
     replace hr43:=ifP hr43
     refine go ?_;exact fin hr43
    ·refine go ?_
     by_cases c47 : 520 < (x45.2.length : Int)
     ·have c47N:=nrm c47
      replace hr43:=ifP hr43
      refine go ?_;exact fin hr43
     ·have c47N:=nrm c47
      replace hr43:=ifN hr43
      refine go ?_;exact bk hr43
   ·have c44N:=nrm c44
    replace hr43:=ifN hr43
    refine go ?_;obtain ⟨r48,q48,rfl⟩:=ms hr43;refine go ?_;rintro rfl
    refine go ?_;unfold Ltx_fits_k1 at q48;refine go ?_;refine lp 10 (fun (p19 : Int)=>⟨(und 1++([.ptr 1 0 0 0 4]++(und 35++([.one (.slice .no (List.map eapi_Input a0.2.1)),.one (.v (.int .i64 (a0.2.1.length : Int))),.one (.v (.int .i64 p19))]++(und 23)))) : List PV),([(1,⟨0,4,[[.v (.int .u32 a0.1),.slice .no (List.map eapi_Input a0.2.1),.slice .no (List.map eapi_Output a0.2.2.1),.v (.int .u32 a0.2.2.2)]],false,false⟩)] : Boxes)⟩) q48 ?_;rintro p19 x64r hr64
    simp only [Ltx_fits_s2] at hr64;unfold b74_2;refine nst ?_;refine go ?_;by_cases c65 : p19 < (a0.2.1.length : Int)
    ·have c65N:=nrm c65
     replace hr64:=ifP hr64
     refine go ?_;obtain ⟨x66,⟨_,_,_⟩,hr64⟩:=bI hr64;refine go ?_;by_cases c67 : 32 < (x66.2.2.length : Int)
     ·have c67N:=nrm c67
      replace hr64:=ifP hr64
      refine go ?_;exact fin hr64
     ·have c67N:=nrm c67
      replace hr64:=ifN hr64
      refine go ?_;refine lp 15 (fun (p31 : Int)=>⟨(und 1++([.ptr 1 0 0 0 4]++(und 35++([.one (.slice .no (List.map eapi_Input a0.2.1)),.one (.v (.int .i64 (a0.2.1.length : Int))),.one (.v (.int .i64 p19))]++(und 8++([.one (.slice .no (List.map eS_I_u8 x66.2.2)),.one (.v (.int .i64 (x66.2.2.length : Int))),.one (.v (.int .i64 p31))]++(und 12)))))) : List PV),([(1,⟨0,4,[[.v (.int .u32 a0.1),.slice .no (List.map eapi_Input a0.2.1),.slice .no (List.map eapi_Output a0.2.2.1),.v (.int .u32 a0.2.2.2)]],false,false⟩)] : Boxes)⟩) hr64 ?_;rintro p31 x73r hr73
      simp only [Ltx_fits_s3] at hr73;unfold b74_3;refine nst ?_;refine go ?_;by_cases c74 : p31 < (x66.2.2.length : Int)
      ·have c74N:=nrm c74
       replace hr73:=ifP hr73
       refine go ?_;obtain ⟨x75,⟨_,_,_⟩,hr73⟩:=bI hr73;refine go ?_;by_cases c76 : 520 < (x75.length : Int)
       ·have c76N:=nrm c76
        replace hr73:=ifP hr73
        refine go ?_;exact fin hr73
       ·have c76N:=nrm c76
        replace hr73:=ifN hr73
        refine go ?_;exact bk hr73
      ·have c74N:=nrm c74
       replace hr73:=ifN hr73
       refine go ?_;obtain ⟨r77,q77,rfl⟩:=ms hr73;refine go ?_;rintro rfl
       refine go ?_;unfold Ltx_fits_k3 at q77;refine go ?_;exact bk q77
    ·have c65N:=nrm c65
     replace hr64:=ifN hr64
     refine go ?_;obtain ⟨r78,q78,rfl⟩:=ms hr64;refine go ?_;rintro rfl
     refine go ?_;unfold Ltx_fits_k2 at q78;obtain ⟨_,ehy79,q78⟩:=bN q78 G93_eq;refine go ?_;exact fin q78
theorem w75 : Walk tt G [] (fun _=>[]) Tryz.f75 K75:=by
 refine .of [(3,⟨[3,6,7,8],[],[]⟩)] false body75 Tryz.ntmps75 fun T hO hT a0 x hr=>⟨by simp,?_⟩
 simp only [tabAll] at hT; simp only at hr ⊢; unfold c75;unfold Ltx_money at hr;refine go ?_;refine lp 3 (fun (⟨p5,p6⟩ : Int×Int)=>⟨(und 3++([.one (.v (.int .i64 p5))]++(und 2++([.one (.slice .no (List.map eapi_Output a0)),.one (.v (.int .i64 (a0.length : Int))),.one (.v (.int .i64 p6))]++(und 13)))) : List PV),([] : Boxes)⟩) hr ?_;rintro ⟨p5,p6⟩ x14r hr14
 simp only [Ltx_money_s1] at hr14;unfold b75_1;refine nst ?_;refine go ?_;by_cases c15 : p6 < (a0.length : Int)
 ·have c15N:=nrm c15
  replace hr14:=ifP hr14
  refine go ?_;obtain ⟨x16,⟨_,_,_⟩,hr14⟩:=bI hr14;refine go ?_;by_cases c17 : IntKind.i64.wrap (2100000000000000 - p5) < x16.1
  ·replace hr14:=ifP hr14
   refine go ?_;exact fin hr14
  ·replace hr14:=ifN hr14
   refine go ?_;exact bk hr14
 ·have c15N:=nrm c15
  replace hr14:=ifN hr14
  refine go ?_;obtain ⟨r18,q18,rfl⟩:=ms hr14;refine go ?_;rintro rfl
  refine go ?_;unfold Ltx_money_k1 at q18;refine go ?_;exact fin q18
theorem w42 : Walk tt G [(46,K46.G),(74,K74.G),(75,K75.G)] (fun _=>[]) Tryz.f42 K42:=by
 refine .of [(9,⟨[1,3,25,26,27],[1,1000000000023],[]⟩)] false body42 Tryz.ntmps42 fun T hO hT a0 x hr=>⟨by simp,?_⟩
 simp only [tabAll] at hT; simp only at hr ⊢; unfold c42;unfold Ltx_Check at hr;refine go ?_;obtain ⟨y13,ehy13,hr⟩:=bN hr G74_eq;refine go ?_;by_cases c14 : y13 = true
 ·replace hr:=ifN hr
  refine go ?_;rcases eqT ((a0.2.1.length : Int) = 0) with c15 | c15
  ·have c15N:=nrm c15
   refine go ?_
   replace hr:=ifP hr
   refine go ?_;exact fin hr
  ·have c15N:=nrm c15
   refine go ?_;rcases eqT ((a0.2.2.1.length : Int) = 0) with c16 | c16
   ·have c16N:=nrm c16
    replace hr:=ifP hr
    refine go ?_;exact fin hr
   ·have c16N:=nrm c16
    replace hr:=ifN hr
    refine go ?_;obtain ⟨y17,ehy17,hr⟩:=bN hr G75_eq;refine go ?_;by_cases c18 : y17 = true
    ·replace hr:=ifN hr
     refine go ?_;refine lp 9 (fun (⟨p7,p8⟩ : Int×(List (Tapi_OutPoint×Bool)))=>⟨(und 1++([.ptr 1 0 0 0 4]++(und 1++([.one (.mp 1000000000023 0)]++(und 21++([.one (.slice .no (List.map eapi_Input a0.2.1)),.one (.v (.int .i64 (a0.2.1.length : Int))),.one (.v (.int .i64 p7))]++(und 19)))))) : List PV),([(1,⟨0,4,[[.v (.int .u32 a0.1),.slice .no (List.map eapi_Input a0.2.1),.slice .no (List.map eapi_Output a0.2.2.1),.v (.int .u32 a0.2.2.2)]],false,false⟩),(1000000000023,⟨0,6,((arC .u8 (zA 32))++((.v (.int .u32 0)) :: [])) :: List.map eM_api_OutPoint_B p8,false,false⟩)] : Boxes)⟩) hr ?_;rintro ⟨p7,p8⟩ x24r hr24
     simp only [Ltx_Check_s1] at hr24;unfold b42_1;refine nst ?_;refine go ?_;by_cases c25 : p7 < (a0.2.1.length : Int)
     ·have c25N:=nrm c25
      replace hr24:=ifP hr24
      refine go ?_;obtain ⟨x26,⟨_,_,_⟩,hr24⟩:=bI hr24;refine go ?_;by_cases c27 : (mget x26.1 p8).getD false = true
      ·replace hr24:=ifP hr24
       refine go ?_;exact fin hr24
      ·replace hr24:=ifN hr24
       refine go ?_;exact bk hr24
     ·have c25N:=nrm c25
      replace hr24:=ifN hr24
      refine go ?_;obtain ⟨r28,q28,rfl⟩:=ms hr24;refine go ?_;rintro rfl
      refine go ?_;unfold Ltx_Check_k1 at q28;refine go ?_;by_cases c29 : (mget (zA 32,4294967295) p8).getD false = true
      ·replace q28:=ifPb q28
       obtain ⟨_,hz30,q28⟩:=bs q28;obtain ⟨y31,ehy31,hz30⟩:=bN hz30 G46_eq;obtain rfl:=Option.some.inj hz30;refine go ?_;by_cases c32 : y31 = true
       ·replace q28:=ifN q28
        refine go ?_;exact fin q28
       ·replace q28:=ifP q28
        refine go ?_;exact fin q28
      ·replace q28:=ifNb q28
       obtain ⟨_,hz33,q28⟩:=bs q28;obtain rfl:=Option.some.inj hz33;refine go ?_
       replace q28:=ifN q28
       refine go ?_;exact fin q28
    ·replace hr:=ifP hr
     refine go ?_;exact fin hr
 ·replace hr:=ifP hr
  refine go ?_;exact fin hr
theorem w87 : Walk tt G [(74,K74.G),(93,K93.G)] (fun _=>[]) Tryz.f87 K87:=by
 refine .of [] false body87 Tryz.ntmps87 fun T hO hT ⟨a0,a1⟩ x hr=>⟨by simp,?_⟩
 simp only [tabAll] at hT; simp only at hr ⊢; unfold c87;unfold Ltx_Encode at hr;refine go ?_;obtain ⟨y3,ehy3,hr⟩:=bN hr G74_eq;refine go ?_;by_cases c4 : y3 = true
 ·replace hr:=ifN hr
  refine go ?_;obtain ⟨_,ehy5,hr⟩:=bN hr G93_eq;refine go ?_;exact fin hr
 ·replace hr:=ifP hr
  refine go ?_;exact fin hr
theorem w110 : Walk tt G [] (fun _=>[]) Tryz.f110 K110:=by
 refine .of [(3,⟨[3,6,7,8],[14],[(3,none,14,1)]⟩)] true body110 Tryz.ntmps110 fun T hO hT a0 x hr=>⟨by simp,?_⟩
 simp only [tabAll] at hT; simp only at hr ⊢; unfold c110;unfold Lsha_row at hr;refine go ?_;refine lp 3 (fun (⟨p7,p8⟩ : Int×(List Int))=>⟨(und 3++([.one (.ms 14 0 0 (p8.length) 1)]++(und 2++([.one (.slice .no (List.map eS_I_u8 a0)),.one (.v (.int .i64 (a0.length : Int))),.one (.v (.int .i64 p7))]++(und 8)))) : List PV),([(14,⟨0,1,intsR .u8 p8,false,true⟩)] : Boxes)⟩) hr ?_;rintro ⟨p7,p8⟩ x18r hr18
 simp only [Lsha_row_s1] at hr18;unfold b110_1;refine nst ?_;refine go ?_;by_cases c19 : p7 < (a0.length : Int)
 ·have c19N:=nrm c19
  replace hr18:=ifP hr18
  refine go ?_;obtain ⟨x20,⟨_,_,_⟩,hr18⟩:=bI hr18;refine go ?_;obtain ⟨_,hr18⟩:=bC hr18;have n1_u21_0 : p8.length + x20.length≤140737488355328:=by omega
  have n2_u21_0 : p8.length + x20.length≤9223372036854775807:=by omega
  refine go ?_;exact bk hr18
 ·have c19N:=nrm c19
  replace hr18:=ifN hr18
  refine go ?_;obtain ⟨r22,q22,rfl⟩:=ms hr18;refine go ?_;rintro rfl
  refine go ?_;unfold Lsha_row_k1 at q22;refine go ?_;exact fin q22
theorem w111 : Walk tt G [] (fun _=>[]) Tryz.f111 K111:=by
 refine .of [(5,⟨[0,4,18],[15],[]⟩)] true body111 Tryz.ntmps111 fun T hO hT a0 x hr=>⟨by simp,?_⟩
 simp only [tabAll] at hT; simp only at hr ⊢; unfold c111;unfold Lsha_Pad at hr;refine go ?_;obtain ⟨⟨_,_,_⟩,hr⟩:=bC hr;have mf16 : (IntKind.u64.wrap (1 + ((IntKind.u64.wrap (64 - ((IntKind.u64.wrap (a0 + 9)).tmod 64))).tmod 64))).toNat≤(IntKind.u64.wrap (9 + ((IntKind.u64.wrap (64 - ((IntKind.u64.wrap (a0 + 9)).tmod 64))).tmod 64))).toNat:=by omega
 have mf17 : (IntKind.u64.wrap (9 + ((IntKind.u64.wrap (64 - ((IntKind.u64.wrap (a0 + 9)).tmod 64))).tmod 64))).toNat≤140737488355328:=by omega
 have mf18 : (IntKind.u64.wrap (9 + ((IntKind.u64.wrap (64 - ((IntKind.u64.wrap (a0 + 9)).tmod 64))).tmod 64))).toNat≤9223372036854775807:=by omega
 have mf19 : 0≤IntKind.u64.wrap (9 + ((IntKind.u64.wrap (64 - ((IntKind.u64.wrap (a0 + 9)).tmod 64))).tmod 64)):=by omega
 refine go ?_;obtain ⟨u20_0,hr⟩:=bC hr;have su20_0 : 0 < IntKind.u64.wrap (1 + ((IntKind.u64.wrap (64 - ((IntKind.u64.wrap (a0 + 9)).tmod 64))).tmod 64)):=by have h:=u20_0; rw [List.length_replicate] at h; omega
 refine go ?_;refine lp 5 (fun (⟨p9,p10⟩ : Int×(List Int))=>⟨([.one (.v (.int .u64 a0))]++(und 3++([.one (.ms 15 0 0 (p10.length) 1)]++(und 13++([.one (.v (.int .i64 p9))]++(und 14))))) : List PV),([(15,⟨0,1,intsR .u8 p10,false,true⟩)] : Boxes)⟩) hr ?_;rintro ⟨p9,p10⟩ x26r hr26
 simp only [Lsha_Pad_s1] at hr26;unfold b111_1;refine nst ?_;refine go ?_;by_cases c27 : p9 < 8
 ·replace hr26:=ifP hr26
  refine go ?_;obtain ⟨_,hr26⟩:=bC hr26;obtain ⟨_,hr26⟩:=bC hr26;have n1_u29_0 : p10.length + 1≤140737488355328:=by omega
  have n2_u29_0 : p10.length + 1≤9223372036854775807:=by omega
  refine go ?_;exact bk hr26
 ·replace hr26:=ifN hr26
  refine go ?_;obtain ⟨r30,q30,rfl⟩:=ms hr26;refine go ?_;rintro rfl
  refine go ?_;unfold Lsha_Pad_k1 at q30;refine go ?_;exact fin q30
theorem w117 : Walk tt G [] (fun _=>[]) Tryz.f117 K117:=by
 refine .of [] false body117 Tryz.ntmps117 fun T hO hT ⟨a0,a1⟩ x hr=>⟨by simp,?_⟩
 simp only [tabAll] at hT; simp only at hr ⊢; unfold c117;unfold Lmath_bits_RotateLeft32 at hr;refine go ?_;obtain ⟨_,hr⟩:=bC hr;obtain ⟨_,hr⟩:=bC hr;refine go ?_;exact fin hr
theorem w119 : Walk tt G [(117,K117.G)] (fun _=>[]) Tryz.f119 K119:=by
 refine .of [] false body119 Tryz.ntmps119 fun T hO hT ⟨a0,a1⟩ x hr=>⟨by simp,?_⟩
 simp only [tabAll] at hT; simp only at hr ⊢; unfold c119;unfold Lsha_rotr at hr;refine go ?_;obtain ⟨_,ehy2,hr⟩:=bN hr G117_eq;refine go ?_;exact fin hr
theorem w118 : Walk tt G [(119,K119.G)] (fun _=>[]) Tryz.f118 K118:=by
 refine .of [(3,⟨[1,2,3,9],[1,2,3],[]⟩),(6,⟨[1,2,3,4,9,12],[1,2,3],[]⟩),(12,⟨[2,3,6],[2,3],[]⟩)] false body118 Tryz.ntmps118 fun T hO hT a0 x hr=>⟨by simp,?_⟩
 simp only [tabAll] at hT; simp only at hr ⊢; unfold c118;unfold Lsha_schedule at hr;refine go ?_;refine lp 3 (fun (⟨p20,p21⟩ : Int×(Arr 64))=>⟨(und 1++([.ptr 1 0 0 0 64,.ptr 2 0 0 0 64,.ptr 3 0 0 0 64]++(und 5++([.one (.v (.int .i64 p20))]++(und 75)))) : List PV),([(1,⟨0,64,[arC .u8 a0],false,false⟩),(2,⟨0,64,[arC .u32 (zA 64)],false,false⟩),(3,⟨0,64,[arC .u32 p21],false,false⟩)] : Boxes)⟩) hr ?_;rintro ⟨p20,p21⟩ x106r hr106
 simp only [Lsha_schedule_s1] at hr106;unfold b118_1;refine nst ?_;refine go ?_;by_cases c107 : p20 < 16
 ·replace hr106:=ifP hr106
  refine go ?_;refine lp 6 (fun (⟨p77,p78⟩ : Int×(Arr 64))=>⟨(und 1++([.ptr 1 0 0 0 64,.ptr 2 0 0 0 64,.ptr 3 0 0 0 64,.one (.v (.int .i64 p20))]++(und 4++([.one (.v (.int .i64 p20))]++(und 2++([.one (.v (.int .i64 p77))]++(und 72)))))) : List PV),([(1,⟨0,64,[arC .u8 a0],false,false⟩),(2,⟨0,64,[arC .u32 (zA 64)],false,false⟩),(3,⟨0,64,[arC .u32 p78],false,false⟩)] : Boxes)⟩) hr106 ?_;rintro ⟨p77,p78⟩ x118r hr118
  simp only [Lsha_schedule_s3] at hr118;unfold b118_2;refine nst ?_;refine go ?_;by_cases c119 : p77 < 4
  ·replace hr118:=ifP hr118
   refine go ?_;obtain ⟨j120,⟨_,_,_⟩,hr118⟩:=bA hr118;have j120d : j120≤63:=by omega
   obtain ⟨j123,⟨_,_,_⟩,hr118⟩:=bA hr118;have j123d : j123≤63:=by omega
   have j120d : j120≤63:=by omega
   refine go ?_;exact bk hr118
  ·replace hr118:=ifN hr118
   refine go ?_;obtain ⟨r127,q127,rfl⟩:=ms hr118;refine go ?_;rintro rfl
   refine go ?_;unfold Lsha_schedule_k3 at q127;refine go ?_;exact bk q127
 ·replace hr106:=ifN hr106
  refine go ?_;obtain ⟨r128,q128,rfl⟩:=ms hr106;refine go ?_;rintro rfl
  refine go ?_;unfold Lsha_schedule_k1 at q128;refine go ?_;refine lp 12 (fun (⟨p51,p52⟩ : Int×(Arr 64))=>⟨(und 2++([.ptr 2 0 0 0 64,.ptr 3 0 0 0 64]++(und 2++([.one (.v (.int .i64 p51))]++(und 78)))) : List PV),([(2,⟨0,64,[arC .u32 (zA 64)],false,false⟩),(3,⟨0,64,[arC .u32 p52],false,false⟩)] : Boxes)⟩) q128 ?_;rintro ⟨p51,p52⟩ x158r hr158
  simp only [Lsha_schedule_s2] at hr158;unfold b118_3;refine nst ?_;refine go ?_;by_cases c159 : p51 < 64
  ·replace hr158:=ifP hr158
   refine go ?_;obtain ⟨j160,⟨_,_,_⟩,hr158⟩:=bA hr158;have j160d : j160≤63:=by omega
   obtain ⟨_,ehy163,hr158⟩:=bN hr158 G119_eq;have j160d : j160≤63:=by omega
   obtain ⟨_,ehy166,hr158⟩:=bN hr158 G119_eq;have j160d : j160≤63:=by omega
   refine go ?_;obtain ⟨j169,⟨_,_,_⟩,hr158⟩:=bA hr158;have j169d : j169≤63:=by omega
   obtain ⟨_,ehy172,hr158⟩:=bN hr158 G119_eq;have j169d : j169≤63:=by omega
   obtain ⟨_,ehy175,hr158⟩:=bN hr158 G119_eq;have j169d : j169≤63:=by omega
   refine go ?_;obtain ⟨j178,⟨_,_,_⟩,hr158⟩:=bA hr158;have j178d : j178≤63:=by omega
   obtain ⟨j181,⟨_,_,_⟩,hr158⟩:=bA hr158;have j181d : j181≤63:=by omega
   obtain ⟨j184,⟨_,_,_⟩,hr158⟩:=bA hr158;have j184d : j184≤63:=by omega
   refine go ?_;exact bk hr158
  ·replace hr158:=ifN hr158
   refine go ?_;obtain ⟨r186,q186,rfl⟩:=ms hr158;refine go ?_;rintro rfl
   refine go ?_;unfold Lsha_schedule_k2 at q186;refine go ?_;exact fin q186
theorem w112 : Walk tt G [(118,K118.G),(119,K119.G)] (fun _=>[]) Tryz.f112 K112:=by
 refine .of [(5,⟨[2,4,5,6,7,8,9,10,11,12,13,35],[2,4,5],[]⟩)] false body112 Tryz.ntmps112 fun T hO hT ⟨a0,a1⟩ x hr=>⟨by simp,?_⟩
 simp only [tabAll] at hT; simp only at hr ⊢; unfold c112;unfold Lsha_Compress at hr;refine go ?_;obtain ⟨y47,ehy47,hr⟩:=bN hr G118_eq;refine go ?_;refine lp 5 (fun (⟨p24,p25,p26,p27,p28,p29,p30,p31,p32⟩ : Int×Int×Int×Int×Int×Int×Int×Int×Int)=>⟨(und 2++([.ptr 2 0 0 0 8]++(und 1++([.ptr 4 0 0 0 8,.ptr 5 0 0 0 64,.one (.v (.int .u32 p24)),.one (.v (.int .u32 p25)),.one (.v (.int .u32 p26)),.one (.v (.int .u32 p27)),.one (.v (.int .u32 p28)),.one (.v (.int .u32 p29)),.one (.v (.int .u32 p30)),.one (.v (.int .u32 p31))]++(und 21++([.one (.v (.int .i64 p32))]++(und 95)))))) : List PV),([(2,⟨0,8,[arC .u32 a0],false,false⟩),(4,⟨0,8,[arC .u32 (zA 8)],false,false⟩),(5,⟨0,64,[arC .u32 y47],false,false⟩)] : Boxes)⟩) hr ?_;rintro ⟨p24,p25,p26,p27,p28,p29,p30,p31,p32⟩ x78r hr78
 simp only [Lsha_Compress_s1] at hr78;unfold b112_1;refine nst ?_;refine go ?_;by_cases c79 : p32 < 64
 ·replace hr78:=ifP hr78
  refine go ?_;obtain ⟨_,ehy80,hr78⟩:=bN hr78 G119_eq;obtain ⟨_,ehy81,hr78⟩:=bN hr78 G119_eq;obtain ⟨_,ehy82,hr78⟩:=bN hr78 G119_eq;obtain ⟨j83,⟨_,_,_⟩,hr78⟩:=bA hr78;have j83d : j83≤63:=by omega
  have j83d : j83≤63:=by omega
  refine go ?_;obtain ⟨_,ehy88,hr78⟩:=bN hr78 G119_eq;obtain ⟨_,ehy89,hr78⟩:=bN hr78 G119_eq;obtain ⟨_,ehy90,hr78⟩:=bN hr78 G119_eq;refine go ?_;exact bk hr78
 ·replace hr78:=ifN hr78
  refine go ?_;obtain ⟨r91,q91,rfl⟩:=ms hr78;refine go ?_;rintro rfl
  refine go ?_;unfold Lsha_Compress_k1 at q91;refine go ?_;exact fin q91
theorem w101 : Walk tt G [(110,K110.G),(111,K111.G),(112,K112.G)] (fun _=>[]) Tryz.f101 K101:=by
 refine .of [(4,⟨[2,3,4,18,19],[2,4,14],[]⟩),(10,⟨[2,4,6,31],[2,4,6],[]⟩)] false body101 Tryz.ntmps101 fun T hO hT a0 x hr=>⟨by simp,?_⟩
 simp only [tabAll] at hT; simp only at hr ⊢; unfold c101;unfold Lsha_Sum at hr;refine goADRT ?_;obtain ⟨_,ehy34,hr⟩:=bN hr G111_eq;obtain ⟨y35,ehy35,hr⟩:=bN hr G110_eq;refine goADRT ?_;refine lp 4 (fun (⟨p11,p12⟩ : Int×(Arr 8))=>⟨(und 2++([.ptr 2 0 0 0 32,.one (.ms 14 0 0 (y35.length) 1),.ptr 4 0 0 0 8]++(und 13++([.one (.v (.int .i64 (IntKind.i64.wrap (((y35.length : Int)).tdiv 64)))),.one (.v (.int .i64 p11))]++(und 28)))) : List PV),([(2,⟨0,32,[arC .u8 (zA 32)],false,false⟩),(4,⟨0,8,[arC .u32 p12],false,false⟩),(14,⟨0,1,intsR .u8 y35,false,true⟩)] : Boxes)⟩) hr ?_;rintro ⟨p11,p12⟩ x44r hr44
 simp only [Lsha_Sum_s1] at hr44;unfold b101_1;refine nst ?_;refine goADRT ?_;by_cases c45 : p11 < IntKind.i64.wrap (((y35.length : Int)).tdiv 64)
 ·have c45N:=nrm c45
  replace hr44:=ifP hr44
  refine goADRT ?_;obtain ⟨⟨_,_⟩,hr44⟩:=bC hr44;have sf47 : (IntKind.i64.wrap (64 * p11)).toNat≤y35.length:=by omega
  obtain ⟨_,hr44⟩:=bC hr44;have fp49:=flat_part (k:=.u8) (l:=y35) (o:=(IntKind.i64.wrap (64 * p11)).toNat) (n:=64) (by omega);have fp49l : (IntKind.i64.wrap (64 * p11)).toNat + 64≤y35.length:=by omega
  obtain ⟨_,ehy50,hr44⟩:=bN hr44 G112_eq;refine goADRT ?_;exact bk hr44
 ·have c45N:=nrm c45
  replace hr44:=ifN hr44
  refine goADRT ?_;obtain ⟨r51,q51,rfl⟩:=ms hr44;refine goADRT ?_;rintro rfl
  refine goADRT ?_;unfold Lsha_Sum_k1 at q51;refine goADRT ?_;refine lp 10 (fun (⟨p23,p24⟩ : Int×(Arr 32))=>⟨(und 2++([.ptr 2 0 0 0 32]++(und 1++([.ptr 4 0 0 0 8]++(und 1++([.ptr 6 0 0 0 32]++(und 24++([.one (.v (.int .i64 p23))]++(und 16)))))))) : List PV),([(2,⟨0,32,[arC .u8 (zA 32)],false,false⟩),(4,⟨0,8,[arC .u32 p12],false,false⟩),(6,⟨0,32,[arC .u8 p24],false,false⟩)] : Boxes)⟩) q51 ?_;rintro ⟨p23,p24⟩ x61r hr61
  simp only [Lsha_Sum_s2] at hr61;unfold b101_2;refine nst ?_;refine goADRT ?_;by_cases c62 : p23 < 32
  ·replace hr61:=ifP hr61
   refine goADRT ?_;obtain ⟨j63,⟨_,_,_⟩,hr61⟩:=bA hr61;have j63d : j63≤7:=by omega
   obtain ⟨_,hr61⟩:=bC hr61;obtain ⟨j67,⟨_,_,_⟩,hr61⟩:=bA hr61;have j67d : j67≤31:=by omega
   refine goADRT ?_;exact bk hr61
  ·replace hr61:=ifN hr61
   refine goADRT ?_;obtain ⟨r69,q69,rfl⟩:=ms hr61;refine goADRT ?_;rintro rfl
   refine goADRT ?_;unfold Lsha_Sum_k2 at q69;refine goADRT ?_;exact fin q69
end Go.Proofs.YtjdoijdjeapekaaGreatDoor
