import Derived.Test.YthpkpciceodioaaGreatDoorLfK
import Derived.Test.YthpkpciceodioaaGreatDoorCode
import Derived.Test.YthpkpciceodioaaGreatDoorBl
namespace Go.Proofs.YthpkpciceodioaaGreatDoor
open Go.RowKit
open Go.Av
open Go.Lc
set_option maxRecDepth 100000
set_option linter.unusedSimpArgs false
set_option linter.unusedVariables false
set_option maxHeartbeats 4000000
theorem w25 : Walk tt G [] (fun _=>[]) Tryz.f25 K25:=by
 refine .of [] false body25 Tryz.ntmps25 fun T hO hT ⟨a0,a1⟩ x hr=>⟨by simp,?_⟩
 simp only [tabAll] at hT; simp only at hr ⊢; unfold c25;unfold Lref01_Same at hr;refine go ?_;exact fin hr
theorem w16 : Walk tt G [(25,K25.G)] (fun _=>[]) Tryz.f16 K16:=by
 refine .of [] false body16 Tryz.ntmps16 fun T hO hT ⟨a0,a1⟩ x hr=>⟨by simp,?_⟩
 simp only [tabAll] at hT; simp only at hr ⊢; unfold c16;unfold Lref19_Same at hr;refine go ?_;rcases eqT (a0.1 = a1.1) with c3 | c3
 ·replace hr:=ifPb hr
  obtain ⟨_,hz4,hr⟩:=bs hr;obtain ⟨_,ehy5,hz4⟩:=bN hz4 G25_eq;obtain rfl:=Option.some.inj hz4;refine go ?_;exact fin hr
 ·replace hr:=ifNb hr
  obtain ⟨_,hz6,hr⟩:=bs hr;obtain rfl:=Option.some.inj hz6;refine go ?_;exact fin hr
theorem w97 : Walk tt G [] (fun _=>[]) Tryz.f97 K97:=by
 refine .of [] true body97 Tryz.ntmps97 fun T hO hT ⟨a0,a1⟩ x hr=>⟨by simp,?_⟩
 simp only [tabAll] at hT; simp only at hr ⊢; unfold c97;unfold Lcodec_extend at hr;refine go ?_;obtain ⟨⟨_,_⟩,hr⟩:=bC hr;have mf5 : 0≤(IntKind.i64.wrap ((a0.length : Int) + (a1.length : Int))).toNat:=by omega
 have mf6 : (IntKind.i64.wrap ((a0.length : Int) + (a1.length : Int))).toNat≤140737488355328:=by omega
 have mf7 : (IntKind.i64.wrap ((a0.length : Int) + (a1.length : Int))).toNat≤9223372036854775807:=by omega
 have mf8 : 0≤IntKind.i64.wrap ((a0.length : Int) + (a1.length : Int)):=by omega
 refine go ?_;obtain ⟨_,hr⟩:=bC hr;have n1_u9_0 : a0.length≤140737488355328:=by omega
 have n2_u9_0 : a0.length≤9223372036854775807:=by omega
 refine go ?_;obtain ⟨_,hr⟩:=bC hr;have n1_u10_0 : a0.length + a1.length≤140737488355328:=by omega
 have n2_u10_0 : a0.length + a1.length≤9223372036854775807:=by omega
 refine go ?_;exact fin hr
theorem w119 : Walk tt G [] (fun _=>[]) Tryz.f119 K119:=by
 refine .of [(3,⟨[0,5,9,10],[8],[]⟩)] true body119 Tryz.ntmps119 fun T hO hT ⟨a0,a1⟩ x hr=>⟨by simp,?_⟩
 simp only [tabAll] at hT; simp only at hr ⊢; unfold c119;unfold Lcodec_lowest at hr;refine go ?_;obtain ⟨⟨_,_⟩,hr⟩:=bC hr;have mf15 : (a1).toNat≤140737488355328:=by omega
 have mf16 : (a1).toNat≤9223372036854775807:=by omega
 have mf17 : 0≤a1:=by omega
 refine go ?_;refine lp 3 (fun (⟨p8,p9⟩ : Int×(List Int))=>⟨([.one (.v (.int .u64 a0))]++(und 4++([.one (.ms 8 0 0 (p9.length) 1)]++(und 3++([.one (.v (.int .i64 a1)),.one (.v (.int .i64 p8))]++(und 12))))) : List PV),([(8,⟨0,1,intsR .u8 p9,false,true⟩)] : Boxes)⟩) hr ?_;rintro ⟨p8,p9⟩ x23r hr23
 simp only [Lcodec_lowest_s1] at hr23;unfold b119_1;refine nst ?_;refine go ?_;by_cases c24 : p8 < a1
 ·replace hr23:=ifP hr23
  refine go ?_;obtain ⟨_,hr23⟩:=bC hr23;obtain ⟨_,⟨_,_,_⟩,hr23⟩:=bA hr23;refine go ?_;exact bk hr23
 ·replace hr23:=ifN hr23
  refine go ?_;obtain ⟨r27,q27,rfl⟩:=ms hr23;refine go ?_;rintro rfl
  refine go ?_;unfold Lcodec_lowest_k1 at q27;refine go ?_;exact fin q27
theorem w80 : Walk tt G [(97,K97.G),(119,K119.G)] (fun _=>[]) Tryz.f80 K80:=by
 refine .of [] true body80 Tryz.ntmps80 fun T hO hT ⟨a0,a1⟩ x hr=>⟨by simp,?_⟩
 simp only [tabAll] at hT; simp only at hr ⊢; unfold c80;unfold Lcodec_AppendU32 at hr;refine go ?_;obtain ⟨_,ehy3,hr⟩:=bN hr G119_eq;obtain ⟨_,ehy4,hr⟩:=bN hr G97_eq;refine go ?_;exact fin hr
theorem w98 : Walk tt G [(97,K97.G),(119,K119.G)] (fun _=>[]) Tryz.f98 K98:=by
 refine .of [] true body98 Tryz.ntmps98 fun T hO hT ⟨a0,a1⟩ x hr=>⟨by simp,?_⟩
 simp only [tabAll] at hT; simp only at hr ⊢; unfold c98;unfold Lcodec_AppendU16 at hr;refine go ?_;obtain ⟨_,ehy3,hr⟩:=bN hr G119_eq;obtain ⟨_,ehy4,hr⟩:=bN hr G97_eq;refine go ?_;exact fin hr
theorem w99 : Walk tt G [(97,K97.G),(119,K119.G)] (fun _=>[]) Tryz.f99 K99:=by
 refine .of [] true body99 Tryz.ntmps99 fun T hO hT ⟨a0,a1⟩ x hr=>⟨by simp,?_⟩
 simp only [tabAll] at hT; simp only at hr ⊢; unfold c99;unfold Lcodec_AppendU64 at hr;refine go ?_;obtain ⟨_,ehy3,hr⟩:=bN hr G119_eq;obtain ⟨_,ehy4,hr⟩:=bN hr G97_eq;refine go ?_;exact fin hr
theorem w56 : Walk tt G [(80,K80.G),(97,K97.G),(98,K98.G),(99,K99.G)] (fun _=>[]) Tryz.f56 K56:=by
 refine .of [] true body56 Tryz.ntmps56 fun T hO hT ⟨a0,a1⟩ x hr=>⟨by simp,?_⟩
 simp only [tabAll] at hT; simp only at hr ⊢; unfold c56;unfold Lcodec_AppendSize at hr;refine go ?_;by_cases c8 : a1 < 253
 ·replace hr:=ifP hr
  refine go ?_;obtain ⟨_,ehy9,hr⟩:=bN hr G97_eq;refine go ?_;exact fin hr
 ·replace hr:=ifN hr
  refine go ?_;by_cases c10 : a1 < 65536
  ·replace hr:=ifP hr
   refine go ?_;obtain ⟨_,ehy11,hr⟩:=bN hr G97_eq;obtain ⟨_,ehy12,hr⟩:=bN hr G98_eq;refine go ?_;exact fin hr
  ·replace hr:=ifN hr
   refine go ?_;by_cases c13 : a1 < 4294967296
   ·replace hr:=ifP hr
    refine go ?_;obtain ⟨_,ehy14,hr⟩:=bN hr G97_eq;obtain ⟨_,ehy15,hr⟩:=bN hr G80_eq;refine go ?_;exact fin hr
   ·replace hr:=ifN hr
    refine go ?_;obtain ⟨_,ehy16,hr⟩:=bN hr G97_eq;obtain ⟨_,ehy17,hr⟩:=bN hr G99_eq;refine go ?_;exact fin hr
theorem w55 : Walk tt G [(56,K56.G),(97,K97.G)] (fun _=>[]) Tryz.f55 K55:=by
 refine .of [] true body55 Tryz.ntmps55 fun T hO hT ⟨a0,a1⟩ x hr=>⟨by simp,?_⟩
 simp only [tabAll] at hT; simp only at hr ⊢; unfold c55;unfold Lcodec_AppendBytes at hr;refine go ?_;obtain ⟨_,ehy3,hr⟩:=bN hr G56_eq;obtain ⟨_,ehy4,hr⟩:=bN hr G97_eq;refine go ?_;exact fin hr
theorem w26 : Walk tt G [(55,K55.G),(56,K56.G)] (fun _=>[]) Tryz.f26 K26:=by
 refine .of [] false body26 Tryz.ntmps26 fun T hO hT a0 x hr=>⟨by simp,?_⟩
 simp only [tabAll] at hT; simp only at hr ⊢; unfold c26;unfold Lfilter_Encode at hr;refine go ?_;by_cases c3 : a0.1 < 0
 ·refine go ?_
  replace hr:=ifP hr
  refine go ?_;exact fin hr
 ·by_cases c4 : 4096 < a0.1
  ·refine go ?_
   replace hr:=ifP hr
   refine go ?_;exact fin hr
  ·refine go ?_
   by_cases c5 : 200000 < (a0.2.length : Int)
   ·have c5N:=nrm c5
    replace hr:=ifP hr
    refine go ?_;exact fin hr
   ·have c5N:=nrm c5
    replace hr:=ifN hr
    refine go ?_;obtain ⟨_,ehy6,hr⟩:=bN hr G56_eq;obtain ⟨_,ehy7,hr⟩:=bN hr G55_eq;refine go ?_;exact fin hr
theorem w196 : Walk tt G [] (fun _=>[]) Tryz.f196 K196:=by
 refine .of [] false body196 Tryz.ntmps196 fun T hO hT ⟨a0,a1,a2⟩ x hr=>⟨by simp,?_⟩
 simp only [tabAll] at hT; simp only at hr ⊢; unfold c196;unfold Lcodec_room at hr;refine go ?_;by_cases c1 : a1 < 0
 ·refine go ?_
  replace hr:=ifP hr
  refine go ?_;exact fin hr
 ·refine go ?_
  by_cases c2 : (a0.length : Int) < a1
  ·have c2N:=nrm c2
   replace hr:=ifP hr
   refine go ?_;exact fin hr
  ·have c2N:=nrm c2
   replace hr:=ifN hr
   refine go ?_;by_cases c3 : IntKind.i64.wrap ((a0.length : Int) - a1) < a2
   ·have c3N:=nrm c3
    replace hr:=ifP hr
    refine go ?_;exact fin hr
   ·have c3N:=nrm c3
    replace hr:=ifN hr
    refine go ?_;exact fin hr
theorem w149 : Walk tt G [(196,K196.G)] (fun _=>[]) Tryz.f149 K149:=by
 refine .of [(6,⟨[0,1,2,10,19,20],[],[]⟩)] false body149 Tryz.ntmps149 fun T hO hT ⟨a0,a1,a2⟩ x hr=>⟨by simp,?_⟩
 simp only [tabAll] at hT; simp only at hr ⊢; unfold c149;unfold Lcodec_read_of_uint8 at hr;refine go ?_;obtain ⟨y14,ehy14,hr⟩:=bN hr G196_eq;refine go ?_;rcases eqT (y14 = 0) with c15 | c15
 ·replace hr:=ifN hr
  refine go ?_;refine lp 6 (fun (⟨p8,p9⟩ : Int×Int)=>⟨([.one (.slice .no (intsR .u8 a0)),.one (.v (.int .i64 a1)),.one (.v (.int .i64 a2))]++(und 7++([.one (.v (.int .u8 p8))]++(und 8++([.one (.v (.int .i64 a2)),.one (.v (.int .i64 p9))]++(und 18))))) : List PV),([] : Boxes)⟩) hr ?_;rintro ⟨p8,p9⟩ x21r hr21
  simp only [Lcodec_read_of_uint8_s1] at hr21;unfold b149_1;refine nst ?_;refine go ?_;by_cases c22 : p9 < a2
  ·replace hr21:=ifP hr21
   refine go ?_;obtain ⟨_,⟨_,_,_⟩,hr21⟩:=bI hr21;obtain ⟨_,hr21⟩:=bC hr21;refine go ?_;exact bk hr21
  ·replace hr21:=ifN hr21
   refine go ?_;obtain ⟨r25,q25,rfl⟩:=ms hr21;refine go ?_;rintro rfl
   refine go ?_;unfold Lcodec_read_of_uint8_k1 at q25;refine go ?_;exact fin q25
 ·replace hr:=ifP hr
  refine go ?_;exact fin hr
theorem w100 : Walk tt G [(149,K149.G)] (fun _=>[]) Tryz.f100 K100:=by
 refine .of [] false body100 Tryz.ntmps100 fun T hO hT ⟨a0,a1⟩ x hr=>⟨by simp,?_⟩
 simp only [tabAll] at hT; simp only at hr ⊢; unfold c100;unfold Lcodec_U8 at hr;refine go ?_;obtain ⟨_,ehy2,hr⟩:=bN hr G149_eq;refine go ?_;exact fin hr
theorem w150 : Walk tt G [(196,K196.G)] (fun _=>[]) Tryz.f150 K150:=by
 refine .of [(6,⟨[0,1,2,10,19,20],[],[]⟩)] false body150 Tryz.ntmps150 fun T hO hT ⟨a0,a1,a2⟩ x hr=>⟨by simp,?_⟩
 simp only [tabAll] at hT; simp only at hr ⊢; unfold c150;unfold Lcodec_read_of_uint16 at hr;refine go ?_;obtain ⟨y14,ehy14,hr⟩:=bN hr G196_eq;refine go ?_;rcases eqT (y14 = 0) with c15 | c15
 ·replace hr:=ifN hr
  refine go ?_;refine lp 6 (fun (⟨p8,p9⟩ : Int×Int)=>⟨([.one (.slice .no (intsR .u8 a0)),.one (.v (.int .i64 a1)),.one (.v (.int .i64 a2))]++(und 7++([.one (.v (.int .u16 p8))]++(und 8++([.one (.v (.int .i64 a2)),.one (.v (.int .i64 p9))]++(und 19))))) : List PV),([] : Boxes)⟩) hr ?_;rintro ⟨p8,p9⟩ x21r hr21
  simp only [Lcodec_read_of_uint16_s1] at hr21;unfold b150_1;refine nst ?_;refine go ?_;by_cases c22 : p9 < a2
  ·replace hr21:=ifP hr21
   refine go ?_;obtain ⟨_,⟨_,_,_⟩,hr21⟩:=bI hr21;obtain ⟨_,hr21⟩:=bC hr21;refine go ?_;exact bk hr21
  ·replace hr21:=ifN hr21
   refine go ?_;obtain ⟨r25,q25,rfl⟩:=ms hr21;refine go ?_;rintro rfl
   refine go ?_;unfold Lcodec_read_of_uint16_k1 at q25;refine go ?_;exact fin q25
 ·replace hr:=ifP hr
  refine go ?_;exact fin hr
theorem w101 : Walk tt G [(150,K150.G)] (fun _=>[]) Tryz.f101 K101:=by
 refine .of [] false body101 Tryz.ntmps101 fun T hO hT ⟨a0,a1⟩ x hr=>⟨by simp,?_⟩
 simp only [tabAll] at hT; simp only at hr ⊢; unfold c101;unfold Lcodec_U16 at hr;refine go ?_;obtain ⟨_,ehy2,hr⟩:=bN hr G150_eq;refine go ?_;exact fin hr
theorem w151 : Walk tt G [(196,K196.G)] (fun _=>[]) Tryz.f151 K151:=by
 refine .of [(6,⟨[0,1,2,10,19,20],[],[]⟩)] false body151 Tryz.ntmps151 fun T hO hT ⟨a0,a1,a2⟩ x hr=>⟨by simp,?_⟩
 simp only [tabAll] at hT; simp only at hr ⊢; unfold c151;unfold Lcodec_read_of_uint32 at hr;refine go ?_;obtain ⟨y14,ehy14,hr⟩:=bN hr G196_eq;refine go ?_;rcases eqT (y14 = 0) with c15 | c15
 ·replace hr:=ifN hr
  refine go ?_;refine lp 6 (fun (⟨p8,p9⟩ : Int×Int)=>⟨([.one (.slice .no (intsR .u8 a0)),.one (.v (.int .i64 a1)),.one (.v (.int .i64 a2))]++(und 7++([.one (.v (.int .u32 p8))]++(und 8++([.one (.v (.int .i64 a2)),.one (.v (.int .i64 p9))]++(und 19))))) : List PV),([] : Boxes)⟩) hr ?_;rintro ⟨p8,p9⟩ x21r hr21
  simp only [Lcodec_read_of_uint32_s1] at hr21;unfold b151_1;refine nst ?_;refine go ?_;by_cases c22 : p9 < a2
  ·replace hr21:=ifP hr21
   refine go ?_;obtain ⟨_,⟨_,_,_⟩,hr21⟩:=bI hr21;obtain ⟨_,hr21⟩:=bC hr21;refine go ?_;exact bk hr21
  ·replace hr21:=ifN hr21
   refine go ?_;obtain ⟨r25,q25,rfl⟩:=ms hr21;refine go ?_;rintro rfl
   refine go ?_;unfold Lcodec_read_of_uint32_k1 at q25;refine go ?_;exact fin q25
 ·replace hr:=ifP hr
  refine go ?_;exact fin hr
theorem w102 : Walk tt G [(151,K151.G)] (fun _=>[]) Tryz.f102 K102:=by
 refine .of [] false body102 Tryz.ntmps102 fun T hO hT ⟨a0,a1⟩ x hr=>⟨by simp,?_⟩
 simp only [tabAll] at hT; simp only at hr ⊢; unfold c102;unfold Lcodec_U32 at hr;refine go ?_;obtain ⟨_,ehy2,hr⟩:=bN hr G151_eq;refine go ?_;exact fin hr
theorem w152 : Walk tt G [(196,K196.G)] (fun _=>[]) Tryz.f152 K152:=by
 refine .of [(6,⟨[0,1,2,10,19,20],[],[]⟩)] false body152 Tryz.ntmps152 fun T hO hT ⟨a0,a1,a2⟩ x hr=>⟨by simp,?_⟩
 simp only [tabAll] at hT; simp only at hr ⊢; unfold c152;unfold Lcodec_read_of_uint64 at hr;refine go ?_;obtain ⟨y14,ehy14,hr⟩:=bN hr G196_eq;refine go ?_;rcases eqT (y14 = 0) with c15 | c15
 ·replace hr:=ifN hr
  refine go ?_;refine lp 6 (fun (⟨p8,p9⟩ : Int×Int)=>⟨([.one (.slice .no (intsR .u8 a0)),.one (.v (.int .i64 a1)),.one (.v (.int .i64 a2))]++(und 7++([.one (.v (.int .u64 p8))]++(und 8++([.one (.v (.int .i64 a2)),.one (.v (.int .i64 p9))]++(und 19))))) : List PV),([] : Boxes)⟩) hr ?_;rintro ⟨p8,p9⟩ x21r hr21
  simp only [Lcodec_read_of_uint64_s1] at hr21;unfold b152_1;refine nst ?_;refine go ?_;by_cases c22 : p9 < a2
  ·replace hr21:=ifP hr21
   refine go ?_;obtain ⟨_,⟨_,_,_⟩,hr21⟩:=bI hr21;obtain ⟨_,hr21⟩:=bC hr21;refine go ?_;exact bk hr21
  ·replace hr21:=ifN hr21
   refine go ?_;obtain ⟨r25,q25,rfl⟩:=ms hr21;refine go ?_;rintro rfl
   refine go ?_;unfold Lcodec_read_of_uint64_k1 at q25;refine go ?_;exact fin q25
 ·replace hr:=ifP hr
  refine go ?_;exact fin hr
theorem w103 : Walk tt G [(152,K152.G)] (fun _=>[]) Tryz.f103 K103:=by
 refine .of [] false body103 Tryz.ntmps103 fun T hO hT ⟨a0,a1⟩ x hr=>⟨by simp,?_⟩
 simp only [tabAll] at hT; simp only at hr ⊢; unfold c103;unfold Lcodec_U64 at hr;refine go ?_;obtain ⟨_,ehy2,hr⟩:=bN hr G152_eq;refine go ?_;exact fin hr
end Go.Proofs.YthpkpciceodioaaGreatDoor
