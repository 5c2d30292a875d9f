import Derived.Test.YthpkpciceodioaaGreatDoorLfK
import Derived.Test.YthpkpciceodioaaGreatDoorCode
import Derived.Test.YthpkpciceodioaaGreatDoorBl
namespace Go.Proofs.YthpkpciceodioaaGreatDoor
open Go.RowKit
open Go.Av
open Go.Lc
set_option maxRecDepth 100000
set_option linter.unusedSimpArgs false
set_option linter.unusedVariables false
set_option maxHeartbeats 4000000
theorem w82 : Walk tt G [] (fun _=>[]) Tryz.f82 K82:=by
 refine .of [] true body82 Tryz.ntmps82 fun T hO hT ⟨a0,a1⟩ x hr=>⟨by simp,?_⟩
 simp only [tabAll] at hT; simp only at hr ⊢; unfold c82;unfold Lref01_joined at hr;refine go ?_;obtain ⟨⟨_,_⟩,hr⟩:=bC hr;have mf5 : 0≤(IntKind.i64.wrap ((a0.length : Int) + (a1.length : Int))).toNat:=by omega
 have mf6 : (IntKind.i64.wrap ((a0.length : Int) + (a1.length : Int))).toNat≤140737488355328:=by omega
 have mf7 : (IntKind.i64.wrap ((a0.length : Int) + (a1.length : Int))).toNat≤9223372036854775807:=by omega
 have mf8 : 0≤IntKind.i64.wrap ((a0.length : Int) + (a1.length : Int)):=by omega
 refine go ?_;obtain ⟨_,hr⟩:=bC hr;have n1_u9_0 : a0.length≤140737488355328:=by omega
 have n2_u9_0 : a0.length≤9223372036854775807:=by omega
 obtain ⟨_,hr⟩:=bC hr;have n1_u10_0 : a0.length + a1.length≤140737488355328:=by omega
 have n2_u10_0 : a0.length + a1.length≤9223372036854775807:=by omega
 refine go ?_;exact fin hr
theorem w96 : Walk tt G [] (fun _=>[]) Tryz.f96 K96:=by
 refine .of [(3,⟨[0,5,10,11],[8],[]⟩)] true body96 Tryz.ntmps96 fun T hO hT ⟨a0,a1⟩ x hr=>⟨by simp,?_⟩
 simp only [tabAll] at hT; simp only at hr ⊢; unfold c96;unfold Lref01_little at hr;refine go ?_;obtain ⟨⟨_,_⟩,hr⟩:=bC hr;have mf15 : (a1).toNat≤140737488355328:=by omega
 have mf16 : (a1).toNat≤9223372036854775807:=by omega
 have mf17 : 0≤a1:=by omega
 refine go ?_;refine lp 3 (fun (⟨p8,p9⟩ : Int×(List Int))=>⟨([.one (.v (.int .u64 a0))]++(und 4++([.one (.ms 8 0 0 (p9.length) 1)]++(und 4++([.one (.v (.int .i64 ((List.replicate ((a1).toNat) 0).length : Int))),.one (.v (.int .i64 p8))]++(und 12))))) : List PV),([(8,⟨0,1,intsR .u8 p9,false,true⟩)] : Boxes)⟩) hr ?_;rintro ⟨p8,p9⟩ x23r hr23
 simp only [Lref01_little_s1] at hr23;unfold b96_1;refine nst ?_;refine go ?_;by_cases c24 : p8 < ((List.replicate ((a1).toNat) 0).length : Int)
 ·have c24N:=nrm c24
  replace hr23:=ifP hr23
  refine go ?_;obtain ⟨_,hr23⟩:=bC hr23;obtain ⟨_,⟨_,_,_⟩,hr23⟩:=bA hr23;refine go ?_;exact bk hr23
 ·have c24N:=nrm c24
  replace hr23:=ifN hr23
  refine go ?_;obtain ⟨r27,q27,rfl⟩:=ms hr23;refine go ?_;rintro rfl
  refine go ?_;unfold Lref01_little_k1 at q27;refine go ?_;exact fin q27
theorem w53 : Walk tt G [(82,K82.G),(96,K96.G)] (fun _=>[]) Tryz.f53 K53:=by
 refine .of [] true body53 Tryz.ntmps53 fun T hO hT ⟨a0,a1⟩ x hr=>⟨by simp,?_⟩
 simp only [tabAll] at hT; simp only at hr ⊢; unfold c53;unfold Lref01_AppendU32 at hr;refine go ?_;obtain ⟨_,ehy3,hr⟩:=bN hr G96_eq;obtain ⟨_,ehy4,hr⟩:=bN hr G82_eq;refine go ?_;exact fin hr
theorem w54 : Walk tt G [(82,K82.G)] (fun _=>[]) Tryz.f54 K54:=by
 refine .of [] true body54 Tryz.ntmps54 fun T hO hT ⟨a0,a1⟩ x hr=>⟨by simp,?_⟩
 simp only [tabAll] at hT; simp only at hr ⊢; unfold c54;unfold Lref01_AppendHash at hr;refine go ?_;obtain ⟨_,ehy2,hr⟩:=bN hr G82_eq;refine go ?_;exact fin hr
theorem w52 : Walk tt G [(53,K53.G),(54,K54.G)] (fun _=>[]) Tryz.f52 K52:=by
 refine .of [(4,⟨[3,22,23,24],[22,900003],[(3,none,900003,0),(3,none,900003,1)]⟩)] true body52 Tryz.ntmps52 fun T hO hT a0 x hr=>⟨by simp,?_⟩
 simp only [tabAll] at hT; simp only at hr ⊢; unfold c52;unfold Lref11_EncodeHeader at hr;refine goR ?_;obtain ⟨_,ehy18,hr⟩:=bN hr G53_eq;refine goR ?_;obtain ⟨_,ehy19,hr⟩:=bN hr G54_eq;obtain ⟨_,ehy20,hr⟩:=bN hr G54_eq;refine goR ?_;refine lp 4 (fun (⟨p10,p11⟩ : Int×(List Int))=>⟨(und 3++([.one (.ms 900003 0 0 (p11.length) 1)]++(und 18++([.one (.ms 22 0 0 (3) 1),.one (.v (.int .i64 (3 : Int))),.one (.v (.int .i64 p10))]++(und 8)))) : List PV),([(22,⟨0,1,intsR .u32 [a0.2.2.2.1,a0.2.2.2.2.1,a0.2.2.2.2.2],false,true⟩),(900003,⟨0,1,intsR .u8 p11,false,true⟩)] : Boxes)⟩) hr ?_;rintro ⟨p10,p11⟩ x27r hr27
 simp only [Lref11_EncodeHeader_s1] at hr27;unfold b52_1;refine nst ?_;refine goR ?_;by_cases c28 : p10 < (3 : Int)
 ·replace hr27:=ifP hr27
  refine goR ?_;obtain ⟨j29,⟨_,_,_⟩,hr27⟩:=bA hr27;have j29d : j29≤2:=by omega
  obtain ⟨x30,hx30,hr27⟩:=bs hr27;have ghx30:=getE_of hx30;have mhx30 : (intsR .u32 ([a0.2.2.2.1,a0.2.2.2.2.1,a0.2.2.2.2.2]))[j29]? = some [.v (.int .u32 x30)]:=by rw [intsR_get,hx30]; rfl
  simp only [intsR_cons,intsR_nil] at mhx30;have mghx30:=getE_of mhx30;refine goR ?_;obtain ⟨_,ehy31,hr27⟩:=bN hr27 G53_eq;refine goR ?_;exact bk hr27
 ·replace hr27:=ifN hr27
  refine goR ?_;obtain ⟨r32,q32,rfl⟩:=ms hr27;refine goR ?_;rintro rfl
  refine goR ?_;unfold Lref11_EncodeHeader_k1 at q32;refine goR ?_;exact fin q32
theorem w22 : Walk tt G [(51,K51.G),(52,K52.G)] (fun _=>[]) Tryz.f22 K22:=by
 refine .of [] false body22 Tryz.ntmps22 fun T hO hT a0 x hr=>⟨by simp,?_⟩
 simp only [tabAll] at hT; simp only at hr ⊢; unfold c22;unfold Lref11_Hash at hr;refine go ?_;obtain ⟨_,ehy3,hr⟩:=bN hr G52_eq;obtain ⟨_,ehy4,hr⟩:=bN hr G51_eq;refine go ?_;exact fin hr
theorem w153 : Walk tt G [] (fun _=>[]) Tryz.f153 K153:=by
 refine .of [(3,⟨[3,6,7,8],[14],[(3,none,14,1)]⟩)] true body153 Tryz.ntmps153 fun T hO hT a0 x hr=>⟨by simp,?_⟩
 simp only [tabAll] at hT; simp only at hr ⊢; unfold c153;unfold Lsha_row at hr;refine go ?_;refine lp 3 (fun (⟨p7,p8⟩ : Int×(List Int))=>⟨(und 3++([.one (.ms 14 0 0 (p8.length) 1)]++(und 2++([.one (.slice .no (List.map eS_I_u8 a0)),.one (.v (.int .i64 (a0.length : Int))),.one (.v (.int .i64 p7))]++(und 8)))) : List PV),([(14,⟨0,1,intsR .u8 p8,false,true⟩)] : Boxes)⟩) hr ?_;rintro ⟨p7,p8⟩ x18r hr18
 simp only [Lsha_row_s1] at hr18;unfold b153_1;refine nst ?_;refine go ?_;by_cases c19 : p7 < (a0.length : Int)
 ·have c19N:=nrm c19
  replace hr18:=ifP hr18
  refine go ?_;obtain ⟨x20,⟨_,_,_⟩,hr18⟩:=bI hr18;refine go ?_;obtain ⟨_,hr18⟩:=bC hr18;have n1_u21_0 : p8.length + x20.length≤140737488355328:=by omega
  have n2_u21_0 : p8.length + x20.length≤9223372036854775807:=by omega
  refine go ?_;exact bk hr18
 ·have c19N:=nrm c19
  replace hr18:=ifN hr18
  refine go ?_;obtain ⟨r22,q22,rfl⟩:=ms hr18;refine go ?_;rintro rfl
  refine go ?_;unfold Lsha_row_k1 at q22;refine go ?_;exact fin q22
theorem w154 : Walk tt G [] (fun _=>[]) Tryz.f154 K154:=by
 refine .of [(5,⟨[0,4,18],[15],[]⟩)] true body154 Tryz.ntmps154 fun T hO hT a0 x hr=>⟨by simp,?_⟩
 simp only [tabAll] at hT; simp only at hr ⊢; unfold c154;unfold Lsha_Pad at hr;refine go ?_;obtain ⟨⟨_,_,_⟩,hr⟩:=bC hr;have mf16 : (IntKind.u64.wrap (1 + ((IntKind.u64.wrap (64 - ((IntKind.u64.wrap (a0 + 9)).tmod 64))).tmod 64))).toNat≤(IntKind.u64.wrap (9 + ((IntKind.u64.wrap (64 - ((IntKind.u64.wrap (a0 + 9)).tmod 64))).tmod 64))).toNat:=by omega
 have mf17 : (IntKind.u64.wrap (9 + ((IntKind.u64.wrap (64 - ((IntKind.u64.wrap (a0 + 9)).tmod 64))).tmod 64))).toNat≤140737488355328:=by omega
 have mf18 : (IntKind.u64.wrap (9 + ((IntKind.u64.wrap (64 - ((IntKind.u64.wrap (a0 + 9)).tmod 64))).tmod 64))).toNat≤9223372036854775807:=by omega
 have mf19 : 0≤IntKind.u64.wrap (9 + ((IntKind.u64.wrap (64 - ((IntKind.u64.wrap (a0 + 9)).tmod 64))).tmod 64)):=by omega
 refine go ?_;obtain ⟨u20_0,hr⟩:=bC hr;have su20_0 : 0 < IntKind.u64.wrap (1 + ((IntKind.u64.wrap (64 - ((IntKind.u64.wrap (a0 + 9)).tmod 64))).tmod 64)):=by have h:=u20_0; rw [List.length_replicate] at h; omega
 refine go ?_;refine lp 5 (fun (⟨p9,p10⟩ : Int×(List Int))=>⟨([.one (.v (.int .u64 a0))]++(und 3++([.one (.ms 15 0 0 (p10.length) 1)]++(und 13++([.one (.v (.int .i64 p9))]++(und 14))))) : List PV),([(15,⟨0,1,intsR .u8 p10,false,true⟩)] : Boxes)⟩) hr ?_;rintro ⟨p9,p10⟩ x26r hr26
 simp only [Lsha_Pad_s1] at hr26;unfold b154_1;refine nst ?_;refine go ?_;by_cases c27 : p9 < 8
 ·replace hr26:=ifP hr26
  refine go ?_;obtain ⟨_,hr26⟩:=bC hr26;obtain ⟨_,hr26⟩:=bC hr26;have n1_u29_0 : p10.length + 1≤140737488355328:=by omega
  have n2_u29_0 : p10.length + 1≤9223372036854775807:=by omega
  refine go ?_;exact bk hr26
 ·replace hr26:=ifN hr26
  refine go ?_;obtain ⟨r30,q30,rfl⟩:=ms hr26;refine go ?_;rintro rfl
  refine go ?_;unfold Lsha_Pad_k1 at q30;refine go ?_;exact fin q30
theorem w198 : Walk tt G [(227,K227.G)] (fun _=>[]) Tryz.f198 K198:=by
 refine .of [] false body198 Tryz.ntmps198 fun T hO hT ⟨a0,a1⟩ x hr=>⟨by simp,?_⟩
 simp only [tabAll] at hT; simp only at hr ⊢; unfold c198;unfold Lsha_rotr at hr;refine go ?_;obtain ⟨_,ehy2,hr⟩:=bN hr G227_eq;refine go ?_;exact fin hr
theorem w197 : Walk tt G [(198,K198.G)] (fun _=>[]) Tryz.f197 K197:=by
 refine .of [(3,⟨[1,2,3,9],[1,2,3],[]⟩),(6,⟨[1,2,3,4,9,12],[1,2,3],[]⟩),(12,⟨[2,3,6],[2,3],[]⟩)] false body197 Tryz.ntmps197 fun T hO hT a0 x hr=>⟨by simp,?_⟩
 simp only [tabAll] at hT; simp only at hr ⊢; unfold c197;unfold Lsha_schedule at hr;refine go ?_;refine lp 3 (fun (⟨p20,p21⟩ : Int×(Arr 64))=>⟨(und 1++([.ptr 1 0 0 0 64,.ptr 2 0 0 0 64,.ptr 3 0 0 0 64]++(und 5++([.one (.v (.int .i64 p20))]++(und 75)))) : List PV),([(1,⟨0,64,[arC .u8 a0],false,false⟩),(2,⟨0,64,[arC .u32 (zA 64)],false,false⟩),(3,⟨0,64,[arC .u32 p21],false,false⟩)] : Boxes)⟩) hr ?_;rintro ⟨p20,p21⟩ x106r hr106
 simp only [Lsha_schedule_s1] at hr106;unfold b197_1;refine nst ?_;refine go ?_;by_cases c107 : p20 < 16
 ·replace hr106:=ifP hr106
  refine go ?_;refine lp 6 (fun (⟨p77,p78⟩ : Int×(Arr 64))=>⟨(und 1++([.ptr 1 0 0 0 64,.ptr 2 0 0 0 64,.ptr 3 0 0 0 64,.one (.v (.int .i64 p20))]++(und 4++([.one (.v (.int .i64 p20))]++(und 2++([.one (.v (.int .i64 p77))]++(und 72)))))) : List PV),([(1,⟨0,64,[arC .u8 a0],false,false⟩),(2,⟨0,64,[arC .u32 (zA 64)],false,false⟩),(3,⟨0,64,[arC .u32 p78],false,false⟩)] : Boxes)⟩) hr106 ?_;rintro ⟨p77,p78⟩ x118r hr118
  simp only [Lsha_schedule_s3] at hr118;unfold b197_2;refine nst ?_;refine go ?_;by_cases c119 : p77 < 4
  ·replace hr118:=ifP hr118
   refine go ?_;obtain ⟨j120,⟨_,_,_⟩,hr118⟩:=bA hr118;have j120d : j120≤63:=by omega
   obtain ⟨j123,⟨_,_,_⟩,hr118⟩:=bA hr118;have j123d : j123≤63:=by omega
   have j120d : j120≤63:=by omega
   refine go ?_;exact bk hr118
  ·replace hr118:=ifN hr118
   refine go ?_;obtain ⟨r127,q127,rfl⟩:=ms hr118;refine go ?_;rintro rfl
   refine go ?_;unfold Lsha_schedule_k3 at q127;refine go ?_;exact bk q127
 ·replace hr106:=ifN hr106
  refine go ?_;obtain ⟨r128,q128,rfl⟩:=ms hr106;refine go ?_;rintro rfl
  refine go ?_;unfold Lsha_schedule_k1 at q128;refine go ?_;refine lp 12 (fun (⟨p51,p52⟩ : Int×(Arr 64))=>⟨(und 2++([.ptr 2 0 0 0 64,.ptr 3 0 0 0 64]++(und 2++([.one (.v (.int .i64 p51))]++(und 78)))) : List PV),([(2,⟨0,64,[arC .u32 (zA 64)],false,false⟩),(3,⟨0,64,[arC .u32 p52],false,false⟩)] : Boxes)⟩) q128 ?_;rintro ⟨p51,p52⟩ x158r hr158
  simp only [Lsha_schedule_s2] at hr158;unfold b197_3;refine nst ?_;refine go ?_;by_cases c159 : p51 < 64
  ·replace hr158:=ifP hr158
   refine go ?_;obtain ⟨j160,⟨_,_,_⟩,hr158⟩:=bA hr158;have j160d : j160≤63:=by omega
   obtain ⟨_,ehy163,hr158⟩:=bN hr158 G198_eq;have j160d : j160≤63:=by omega
   obtain ⟨_,ehy166,hr158⟩:=bN hr158 G198_eq;have j160d : j160≤63:=by omega
   refine go ?_;obtain ⟨j169,⟨_,_,_⟩,hr158⟩:=bA hr158;have j169d : j169≤63:=by omega
   obtain ⟨_,ehy172,hr158⟩:=bN hr158 G198_eq;have j169d : j169≤63:=by omega
   obtain ⟨_,ehy175,hr158⟩:=bN hr158 G198_eq;have j169d : j169≤63:=by omega
   refine go ?_;obtain ⟨j178,⟨_,_,_⟩,hr158⟩:=bA hr158;have j178d : j178≤63:=by omega
   obtain ⟨j181,⟨_,_,_⟩,hr158⟩:=bA hr158;have j181d : j181≤63:=by omega
   obtain ⟨j184,⟨_,_,_⟩,hr158⟩:=bA hr158;have j184d : j184≤63:=by omega
   refine go ?_;exact bk hr158
  ·replace hr158:=ifN hr158
   refine go ?_;obtain ⟨r186,q186,rfl⟩:=ms hr158;refine go ?_;rintro rfl
   refine go ?_;unfold Lsha_schedule_k2 at q186;refine go ?_;exact fin q186
theorem w155 : Walk tt G [(197,K197.G),(198,K198.G)] (fun _=>[]) Tryz.f155 K155:=by
 refine .of [(5,⟨[2,4,5,6,7,8,9,10,11,12,13,35],[2,4,5],[]⟩)] false body155 Tryz.ntmps155 fun T hO hT ⟨a0,a1⟩ x hr=>⟨by simp,?_⟩
 simp only [tabAll] at hT; simp only at hr ⊢; unfold c155;unfold Lsha_Compress at hr;refine go ?_;obtain ⟨y47,ehy47,hr⟩:=bN hr G197_eq;refine go ?_;refine lp 5 (fun (⟨p24,p25,p26,p27,p28,p29,p30,p31,p32⟩ : Int×Int×Int×Int×Int×Int×Int×Int×Int)=>⟨(und 2++([.ptr 2 0 0 0 8]++(und 1++([.ptr 4 0 0 0 8,.ptr 5 0 0 0 64,.one (.v (.int .u32 p24)),.one (.v (.int .u32 p25)),.one (.v (.int .u32 p26)),.one (.v (.int .u32 p27)),.one (.v (.int .u32 p28)),.one (.v (.int .u32 p29)),.one (.v (.int .u32 p30)),.one (.v (.int .u32 p31))]++(und 21++([.one (.v (.int .i64 p32))]++(und 95)))))) : List PV),([(2,⟨0,8,[arC .u32 a0],false,false⟩),(4,⟨0,8,[arC .u32 (zA 8)],false,false⟩),(5,⟨0,64,[arC .u32 y47],false,false⟩)] : Boxes)⟩) hr ?_;rintro ⟨p24,p25,p26,p27,p28,p29,p30,p31,p32⟩ x78r hr78
 simp only [Lsha_Compress_s1] at hr78;unfold b155_1;refine nst ?_;refine go ?_;by_cases c79 : p32 < 64
 ·replace hr78:=ifP hr78
  refine go ?_;obtain ⟨_,ehy80,hr78⟩:=bN hr78 G198_eq;obtain ⟨_,ehy81,hr78⟩:=bN hr78 G198_eq;obtain ⟨_,ehy82,hr78⟩:=bN hr78 G198_eq;obtain ⟨j83,⟨_,_,_⟩,hr78⟩:=bA hr78;have j83d : j83≤63:=by omega
  have j83d : j83≤63:=by omega
  refine go ?_;obtain ⟨_,ehy88,hr78⟩:=bN hr78 G198_eq;obtain ⟨_,ehy89,hr78⟩:=bN hr78 G198_eq;obtain ⟨_,ehy90,hr78⟩:=bN hr78 G198_eq;refine go ?_;exact bk hr78
 ·replace hr78:=ifN hr78
  refine go ?_;obtain ⟨r91,q91,rfl⟩:=ms hr78;refine go ?_;rintro rfl
  refine go ?_;unfold Lsha_Compress_k1 at q91;refine go ?_;exact fin q91
end Go.Proofs.YthpkpciceodioaaGreatDoor
