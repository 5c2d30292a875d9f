import Derived.Test.YtjdoijdjeapekaaGreatDoorLfK
import Derived.Test.YtjdoijdjeapekaaGreatDoorCode
namespace Go.Proofs.YtjdoijdjeapekaaGreatDoor
open Go.RowKit
open Go.Av
open Go.Lc
set_option maxRecDepth 100000
set_option linter.unusedSimpArgs false
set_option linter.unusedVariables false
set_option maxHeartbeats 4000000
theorem w98 : Walk tt G [] (fun _=>[]) Tryz.f98 K98:=by
 refine .of [(3,⟨[0,5,10,11],[8],[]⟩)] true body98 Tryz.ntmps98 fun T hO hT ⟨a0,a1⟩ x hr=>⟨by simp,?_⟩
 simp only [tabAll] at hT; simp only at hr ⊢; unfold c98;unfold Lref01_little at hr;refine go ?_;obtain ⟨⟨_,_⟩,hr⟩:=bC hr;have mf15 : (a1).toNat≤140737488355328:=by omega
 have mf16 : (a1).toNat≤9223372036854775807:=by omega
 have mf17 : 0≤a1:=by omega
 refine go ?_;refine lp 3 (fun (⟨p8,p9⟩ : Int×(List Int))=>⟨([.one (.v (.int .u64 a0))]++(und 4++([.one (.ms 8 0 0 (p9.length) 1)]++(und 4++([.one (.v (.int .i64 ((List.replicate ((a1).toNat) 0).length : Int))),.one (.v (.int .i64 p8))]++(und 12))))) : List PV),([(8,⟨0,1,intsR .u8 p9,false,true⟩)] : Boxes)⟩) hr ?_;rintro ⟨p8,p9⟩ x23r hr23
 simp only [Lref01_little_s1] at hr23;unfold b98_1;refine nst ?_;refine go ?_;by_cases c24 : p8 < ((List.replicate ((a1).toNat) 0).length : Int)
 ·have c24N:=nrm c24
  replace hr23:=ifP hr23
  refine go ?_;obtain ⟨_,hr23⟩:=bC hr23;obtain ⟨_,⟨_,_,_⟩,hr23⟩:=bA hr23;refine go ?_;exact bk hr23
 ·have c24N:=nrm c24
  replace hr23:=ifN hr23
  refine go ?_;obtain ⟨r27,q27,rfl⟩:=ms hr23;refine go ?_;rintro rfl
  refine go ?_;unfold Lref01_little_k1 at q27;refine go ?_;exact fin q27
theorem w82 : Walk tt G [(97,K97.G),(98,K98.G)] (fun _=>[]) Tryz.f82 K82:=by
 refine .of [] true body82 Tryz.ntmps82 fun T hO hT ⟨a0,a1⟩ x hr=>⟨by simp,?_⟩
 simp only [tabAll] at hT; simp only at hr ⊢; unfold c82;unfold Lref01_AppendU32 at hr;refine go ?_;obtain ⟨_,ehy3,hr⟩:=bN hr G98_eq;obtain ⟨_,ehy4,hr⟩:=bN hr G97_eq;refine go ?_;exact fin hr
theorem w83 : Walk tt G [(97,K97.G),(98,K98.G)] (fun _=>[]) Tryz.f83 K83:=by
 refine .of [] true body83 Tryz.ntmps83 fun T hO hT ⟨a0,a1⟩ x hr=>⟨by simp,?_⟩
 simp only [tabAll] at hT; simp only at hr ⊢; unfold c83;unfold Lref01_AppendSize at hr;refine go ?_;by_cases c12 : a1 < 253
 ·replace hr:=ifP hr
  refine go ?_;obtain ⟨_,ehy13,hr⟩:=bN hr G98_eq;obtain ⟨_,ehy14,hr⟩:=bN hr G97_eq;refine go ?_;exact fin hr
 ·replace hr:=ifN hr
  refine go ?_;by_cases c15 : a1 < 65536
  ·replace hr:=ifP hr
   refine go ?_;obtain ⟨_,ehy16,hr⟩:=bN hr G98_eq;obtain ⟨_,ehy17,hr⟩:=bN hr G97_eq;obtain ⟨_,ehy18,hr⟩:=bN hr G97_eq;refine go ?_;exact fin hr
  ·replace hr:=ifN hr
   refine go ?_;by_cases c19 : a1 < 4294967296
   ·replace hr:=ifP hr
    refine go ?_;obtain ⟨_,ehy20,hr⟩:=bN hr G98_eq;obtain ⟨_,ehy21,hr⟩:=bN hr G97_eq;obtain ⟨_,ehy22,hr⟩:=bN hr G97_eq;refine go ?_;exact fin hr
   ·replace hr:=ifN hr
    refine go ?_;obtain ⟨_,ehy23,hr⟩:=bN hr G98_eq;obtain ⟨_,ehy24,hr⟩:=bN hr G97_eq;obtain ⟨_,ehy25,hr⟩:=bN hr G97_eq;refine go ?_;exact fin hr
theorem w99 : Walk tt G [(97,K97.G)] (fun _=>[]) Tryz.f99 K99:=by
 refine .of [] true body99 Tryz.ntmps99 fun T hO hT ⟨a0,a1⟩ x hr=>⟨by simp,?_⟩
 simp only [tabAll] at hT; simp only at hr ⊢; unfold c99;unfold Lref01_AppendHash at hr;refine go ?_;obtain ⟨_,ehy2,hr⟩:=bN hr G97_eq;refine go ?_;exact fin hr
theorem w84 : Walk tt G [(82,K82.G),(99,K99.G)] (fun _=>[]) Tryz.f84 K84:=by
 refine .of [] true body84 Tryz.ntmps84 fun T hO hT a0 x hr=>⟨by simp,?_⟩
 simp only [tabAll] at hT; simp only at hr ⊢; unfold c84;unfold Lref09_Point at hr;refine go ?_;obtain ⟨_,ehy3,hr⟩:=bN hr G99_eq;obtain ⟨_,ehy4,hr⟩:=bN hr G82_eq;refine go ?_;exact fin hr
theorem w86 : Walk tt G [(83,K83.G),(97,K97.G)] (fun _=>[]) Tryz.f86 K86:=by
 refine .of [] true body86 Tryz.ntmps86 fun T hO hT ⟨a0,a1⟩ x hr=>⟨by simp,?_⟩
 simp only [tabAll] at hT; simp only at hr ⊢; unfold c86;unfold Lref01_AppendBytes at hr;refine go ?_;obtain ⟨_,ehy3,hr⟩:=bN hr G83_eq;obtain ⟨_,ehy4,hr⟩:=bN hr G97_eq;refine go ?_;exact fin hr
theorem w100 : Walk tt G [(97,K97.G),(98,K98.G)] (fun _=>[]) Tryz.f100 K100:=by
 refine .of [] true body100 Tryz.ntmps100 fun T hO hT ⟨a0,a1⟩ x hr=>⟨by simp,?_⟩
 simp only [tabAll] at hT; simp only at hr ⊢; unfold c100;unfold Lref01_AppendU64 at hr;refine go ?_;obtain ⟨_,ehy3,hr⟩:=bN hr G98_eq;obtain ⟨_,ehy4,hr⟩:=bN hr G97_eq;refine go ?_;exact fin hr
theorem w85 : Walk tt G [(86,K86.G),(100,K100.G)] (fun _=>[]) Tryz.f85 K85:=by
 refine .of [] true body85 Tryz.ntmps85 fun T hO hT a0 x hr=>⟨by simp,?_⟩
 simp only [tabAll] at hT; simp only at hr ⊢; unfold c85;unfold Lref09_Out at hr;refine go ?_;obtain ⟨_,ehy3,hr⟩:=bN hr G100_eq;obtain ⟨_,ehy4,hr⟩:=bN hr G86_eq;refine go ?_;exact fin hr
theorem w54 : Walk tt G [(82,K82.G),(83,K83.G),(84,K84.G),(85,K85.G),(86,K86.G)] (fun _=>[]) Tryz.f54 K54:=by
 refine .of [(4,⟨[1,2,5,24,25,26],[2,900005],[(5,none,900005,0),(5,none,900005,1)]⟩),(10,⟨[1,2,5,46,47,48],[2,44],[]⟩),(1000026,⟨[5],[900005],[]⟩),(16,⟨[1,5,62,63,64],[900005],[(5,none,900005,0),(5,none,900005,1)]⟩),(21,⟨[1,5,62,63,64,77,78,79],[900005],[(5,none,900005,0),(5,none,900005,1)]⟩)] true body54 Tryz.ntmps54 fun T hO hT ⟨a0,a1⟩ x hr=>⟨by simp,?_⟩
 simp only [tabAll] at hT; simp only at hr ⊢; unfold c54;unfold Lref09_encode at hr;refine go ?_;obtain ⟨_,ehy95,hr⟩:=bN hr G82_eq;refine go ?_;obtain ⟨_,ehy96,hr⟩:=bN hr G83_eq;refine go ?_;refine lp 4 (fun (⟨p13,p14⟩ : Int×(List Int))=>⟨(und 1++([.one (.v (.bool a1)),.ptr 2 0 0 0 4]++(und 2++([.one (.ms 900005 0 0 (p14.length) 1)]++(und 18++([.one (.slice .no (List.map eapi_Input a0.2.1)),.one (.v (.int .i64 (a0.2.1.length : Int))),.one (.v (.int .i64 p13))]++(und 62)))))) : List PV),([(2,⟨0,4,[[.v (.int .u32 a0.1),.slice .no (List.map eapi_Input a0.2.1),.slice .no (List.map eapi_Output a0.2.2.1),.v (.int .u32 a0.2.2.2)]],false,false⟩),(900005,⟨0,1,intsR .u8 p14,false,true⟩)] : Boxes)⟩) hr ?_;rintro ⟨p13,p14⟩ x104r hr104
 simp only [Lref09_encode_s1] at hr104;unfold b54_1;refine nst ?_;refine go ?_;by_cases c105 : p13 < (a0.2.1.length : Int)
 ·have c105N:=nrm c105
  replace hr104:=ifP hr104
  refine go ?_;obtain ⟨_,⟨_,_,_⟩,hr104⟩:=bI hr104;refine go ?_;obtain ⟨y107,ehy107,hr104⟩:=bN hr104 G84_eq;obtain ⟨_,hr104⟩:=bC hr104;have n1_u108_0 : p14.length + y107.length≤140737488355328:=by omega
  have n2_u108_0 : p14.length + y107.length≤9223372036854775807:=by omega
  obtain ⟨_,ehy109,hr104⟩:=bN hr104 G82_eq;refine go ?_;exact bk hr104
 ·have c105N:=nrm c105
  replace hr104:=ifN hr104
  refine go ?_;obtain ⟨r110,q110,rfl⟩:=ms hr104;refine go ?_;rintro rfl
  refine go ?_;unfold Lref09_encode_k1 at q110;obtain ⟨_,ehy111,q110⟩:=bN q110 G83_eq;refine go ?_;refine lp 10 (fun (⟨p28,p29⟩ : Int×(List Int))=>⟨(und 1++([.one (.v (.bool a1)),.ptr 2 0 0 0 4]++(und 2++([.one (.ms 44 0 0 (p29.length) 1)]++(und 40++([.one (.slice .no (List.map eapi_Output a0.2.2.1)),.one (.v (.int .i64 (a0.2.2.1.length : Int))),.one (.v (.int .i64 p28))]++(und 40)))))) : List PV),([(2,⟨0,4,[[.v (.int .u32 a0.1),.slice .no (List.map eapi_Input a0.2.1),.slice .no (List.map eapi_Output a0.2.2.1),.v (.int .u32 a0.2.2.2)]],false,false⟩),(44,⟨0,1,intsR .u8 p29,false,true⟩)] : Boxes)⟩) q110 ?_;rintro ⟨p28,p29⟩ x118r hr118
  simp only [Lref09_encode_s2] at hr118;unfold b54_2;refine nst ?_;refine go ?_;by_cases c119 : p28 < (a0.2.2.1.length : Int)
  ·have c119N:=nrm c119
   replace hr118:=ifP hr118
   refine go ?_;obtain ⟨_,⟨_,_,_⟩,hr118⟩:=bI hr118;refine go ?_;obtain ⟨y121,ehy121,hr118⟩:=bN hr118 G85_eq;obtain ⟨_,hr118⟩:=bC hr118;have n1_u122_0 : p29.length + y121.length≤140737488355328:=by omega
   have n2_u122_0 : p29.length + y121.length≤9223372036854775807:=by omega
   refine go ?_;exact bk hr118
  ·have c119N:=nrm c119
   replace hr118:=ifN hr118
   refine go ?_;obtain ⟨r123,q123,rfl⟩:=ms hr118;refine go ?_;rintro rfl
   refine go ?_;unfold Lref09_encode_k2 at q123;obtain ⟨_,ehy124,q123⟩:=bN q123 G82_eq;refine go ?_;refine ee_J q123 (.exit 4) (fun (s : (List Int))=>match s with | p61=>(⟨(und 5++([.one (.ms 900005 0 0 (p61.length) 1)]++(und 83)) : List PV),([(900005,⟨0,1,intsR .u8 p61,false,true⟩)] : Boxes)⟩ : ASt)) (fun (s : (List Int))=>match s with | p61=>Lref09_encode_k3 p61) ?_ ?_
   ·rintro p61 hk142
    change Lref09_encode_k3 p61 = _ at hk142
    refine go ?_;refine nst ?_;unfold Lref09_encode_k3 at hk142;refine ee_seq_regJ rfl (kq:=⟨[5],[900005],[]⟩) rfl (by simp [joinSt, *]; rfl) (by simp [*] <;> rfl) ?_;refine go ?_;exact fin hk142
   ·intro J142
    simp only [pq,reduceCtorEq] at J142;refine lp 16 (fun (⟨p60,p61⟩ : Int×(List Int))=>⟨(und 1++([.one (.v (.bool a1))]++(und 3++([.one (.ms 900005 0 0 (p61.length) 1)]++(und 56++([.one (.slice .no (List.map eapi_Input a0.2.1)),.one (.v (.int .i64 (a0.2.1.length : Int))),.one (.v (.int .i64 p60))]++(und 24)))))) : List PV),([(900005,⟨0,1,intsR .u8 p61,false,true⟩)] : Boxes)⟩) q123 ?_;rintro ⟨p60,p61⟩ x143r hr143
    simp only [Lref09_encode_s3] at hr143;unfold b54_3;refine nst ?_;refine go ?_;by_cases c144 : p60 < (a0.2.1.length : Int)
    ·have c144N:=nrm c144
     replace hr143:=ifP hr143
     refine go ?_;obtain ⟨x145,⟨_,_,_⟩,hr143⟩:=bI hr143;refine go ?_;by_cases c146 : a1 = true
     ·replace hr143:=ifN hr143
      refine go ?_;obtain ⟨_,ehy147,hr143⟩:=bN hr143 G83_eq;refine go ?_;refine lp 21 (fun (⟨p82,p83⟩ : Int×(List Int))=>⟨(und 1++([.one (.v (.bool a1))]++(und 3++([.one (.ms 900005 0 0 (p83.length) 1)]++(und 56++([.one (.slice .no (List.map eapi_Input a0.2.1)),.one (.v (.int .i64 (a0.2.1.length : Int))),.one (.v (.int .i64 p60))]++(und 12++([.one (.slice .no (List.map eS_I_u8 x145.2.2)),.one (.v (.int .i64 (x145.2.2.length : Int))),.one (.v (.int .i64 p82))]++(und 9)))))))) : List PV),([(900005,⟨0,1,intsR .u8 p83,false,true⟩)] : Boxes)⟩) hr143 ?_;rintro ⟨p82,p83⟩ x153r hr153
      simp only [Lref09_encode_s4] at hr153;unfold b54_4;refine nst ?_;refine go ?_;by_cases c154 : p82 < (x145.2.2.length : Int)
      ·have c154N:=nrm c154
       replace hr153:=ifP hr153
       refine go ?_;obtain ⟨_,⟨_,_,_⟩,hr153⟩:=bI hr153;refine go ?_;obtain ⟨_,ehy156,hr153⟩:=bN hr153 G86_eq;refine go ?_;exact bk hr153
      ·have c154N:=nrm c154
       replace hr153:=ifN hr153
       refine go ?_;obtain ⟨r157,q157,rfl⟩:=ms hr153;refine go ?_;rintro rfl
       refine go ?_;unfold Lref09_encode_k4 at q157;refine go ?_;exact bk q157
     ·replace hr143:=ifP hr143
      refine go ?_;obtain ⟨r158,q158,rfl⟩:=ms hr143;refine go ?_;rintro rfl
      refine go ?_;exact jn 1000026 (J142 p61 q158)
    ·have c144N:=nrm c144
     replace hr143:=ifN hr143
     refine go ?_;obtain ⟨r159,q159,rfl⟩:=ms hr143;refine go ?_;rintro rfl
     refine go ?_;exact jn 1000026 (J142 p61 q159)
theorem w52 : Walk tt G [(54,K54.G)] (fun _=>[]) Tryz.f52 K52:=by
 refine .of [(4,⟨[1,20,21,22],[1],[]⟩),(10,⟨[1,37,38,39],[1],[]⟩),(15,⟨[1,37,38,39,48,49,50],[1],[]⟩)] false body52 Tryz.ntmps52 fun T hO hT a0 x hr=>⟨by simp,?_⟩
 simp only [tabAll] at hT; simp only at hr ⊢; unfold c52;unfold Lref09_Fits at hr;refine go ?_;by_cases c35 : 64 < (a0.2.1.length : Int)
 ·have c35N:=nrm c35
  refine go ?_
  replace hr:=ifP hr
  refine go ?_;exact fin hr
 ·have c35N:=nrm c35
  refine go ?_;by_cases c36 : 64 < (a0.2.2.1.length : Int)
  ·have c36N:=nrm c36
   replace hr:=ifP hr
   refine go ?_;exact fin hr
  ·have c36N:=nrm c36
   replace hr:=ifN hr
   refine go ?_;refine lp 4 (fun (p4 : Int)=>⟨(und 1++([.ptr 1 0 0 0 4]++(und 18++([.one (.slice .no (List.map eapi_Output a0.2.2.1)),.one (.v (.int .i64 (a0.2.2.1.length : Int))),.one (.v (.int .i64 p4))]++(und 40)))) : List PV),([(1,⟨0,4,[[.v (.int .u32 a0.1),.slice .no (List.map eapi_Input a0.2.1),.slice .no (List.map eapi_Output a0.2.2.1),.v (.int .u32 a0.2.2.2)]],false,false⟩)] : Boxes)⟩) hr ?_;rintro p4 x43r hr43
   simp only [Lref09_Fits_s1] at hr43;unfold b52_1;refine nst ?_;refine go ?_;by_cases c44 : p4 < (a0.2.2.1.length : Int)
   ·have c44N:=nrm c44
    replace hr43:=ifP hr43
    refine go ?_;obtain ⟨x45,⟨_,_,_⟩,hr43⟩:=bI hr43;refine go ?_;by_cases c46 : x45.1 < 0
    ·refine go ?_
     replace hr43:=ifP hr43
     refine go ?_;exact fin hr43
    ·refine go ?_
     by_cases c47 : 520 < (x45.2.length : Int)
     ·have c47N:=nrm c47
      replace hr43:=ifP hr43
      refine go ?_;exact fin hr43
     ·have c47N:=nrm c47
      replace hr43:=ifN hr43
      refine go ?_;exact bk hr43
   ·have c44N:=nrm c44
    replace hr43:=ifN hr43
    refine go ?_;obtain ⟨r48,q48,rfl⟩:=ms hr43;refine go ?_;rintro rfl
    refine go ?_;unfold Lref09_Fits_k1 at q48;refine go ?_;refine lp 10 (fun (p19 : Int)=>⟨(und 1++([.ptr 1 0 0 0 4]++(und 35++([.one (.slice .no (List.map eapi_Input a0.2.1)),.one (.v (.int .i64 (a0.2.1.length : Int))),.one (.v (.int .i64 p19))]++(und 23)))) : List PV),([(1,⟨0,4,[[.v (.int .u32 a0.1),.slice .no (List.map eapi_Input a0.2.1),.slice .no (List.map eapi_Output a0.2.2.1),.v (.int .u32 a0.2.2.2)]],false,false⟩)] : Boxes)⟩) q48 ?_;rintro p19 x64r hr64
    simp only [Lref09_Fits_s2] at hr64;unfold b52_2;refine nst ?_;refine go ?_;by_cases c65 : p19 < (a0.2.1.length : Int)
    ·have c65N:=nrm c65
     replace hr64:=ifP hr64
     refine go ?_;obtain ⟨x66,⟨_,_,_⟩,hr64⟩:=bI hr64;refine go ?_;by_cases c67 : 32 < (x66.2.2.length : Int)
     ·have c67N:=nrm c67
      replace hr64:=ifP hr64
      refine go ?_;exact fin hr64
     ·have c67N:=nrm c67
      replace hr64:=ifN hr64
      refine go ?_;refine lp 15 (fun (p31 : Int)=>⟨(und 1++([.ptr 1 0 0 0 4]++(und 35++([.one (.slice .no (List.map eapi_Input a0.2.1)),.one (.v (.int .i64 (a0.2.1.length : Int))),.one (.v (.int .i64 p19))]++(und 8++([.one (.slice .no (List.map eS_I_u8 x66.2.2)),.one (.v (.int .i64 (x66.2.2.length : Int))),.one (.v (.int .i64 p31))]++(und 12)))))) : List PV),([(1,⟨0,4,[[.v (.int .u32 a0.1),.slice .no (List.map eapi_Input a0.2.1),.slice .no (List.map eapi_Output a0.2.2.1),.v (.int .u32 a0.2.2.2)]],false,false⟩)] : Boxes)⟩) hr64 ?_;rintro p31 x73r hr73
      simp only [Lref09_Fits_s3] at hr73;unfold b52_3;refine nst ?_;refine go ?_;by_cases c74 : p31 < (x66.2.2.length : Int)
      ·have c74N:=nrm c74
       replace hr73:=ifP hr73
       refine go ?_;obtain ⟨x75,⟨_,_,_⟩,hr73⟩:=bI hr73;refine go ?_;by_cases c76 : 520 < (x75.length : Int)
       ·have c76N:=nrm c76
        replace hr73:=ifP hr73
        refine go ?_;exact fin hr73
       ·have c76N:=nrm c76
        replace hr73:=ifN hr73
        refine go ?_;exact bk hr73
      ·have c74N:=nrm c74
       replace hr73:=ifN hr73
       refine go ?_;obtain ⟨r77,q77,rfl⟩:=ms hr73;refine go ?_;rintro rfl
       refine go ?_;unfold Lref09_Fits_k3 at q77;refine go ?_;exact bk q77
    ·have c65N:=nrm c65
     replace hr64:=ifN hr64
     refine go ?_;obtain ⟨r78,q78,rfl⟩:=ms hr64;refine go ?_;rintro rfl
     refine go ?_;unfold Lref09_Fits_k2 at q78;obtain ⟨_,ehy79,q78⟩:=bN q78 G54_eq;refine go ?_;exact fin q78
theorem w94 : Walk tt G [] (fun _=>[]) Tryz.f94 K94:=by
 refine .of [(2,⟨[0,3],[5],[]⟩),(5,⟨[0,3,4],[5],[]⟩)] true body94 Tryz.ntmps94 fun T hO hT a0 x hr=>⟨by simp,?_⟩
 simp only [tabAll] at hT; simp only at hr ⊢; unfold c94;unfold Lref03_Pad at hr;refine go ?_;refine lp 2 (fun (p4 : (List Int))=>⟨([.one (.v (.int .u64 a0))]++(und 2++([.one (.ms 5 0 0 (p4.length) 1)]++(und 27))) : List PV),([(5,⟨0,1,intsR .u8 p4,false,true⟩)] : Boxes)⟩) hr ?_;rintro p4 x23r hr23
 simp only [Lref03_Pad_s1] at hr23;unfold b94_1;refine nst ?_;refine go ?_;rcases eqT ((IntKind.u64.wrap ((IntKind.u64.wrap (a0 + (IntKind.u64.wrap ((p4.length : Int))))) + 8)).tmod 64 = 0) with c24 | c24
 ·have c24N:=nrm c24
  replace hr23:=ifN hr23
  refine go ?_;obtain ⟨r25,q25,rfl⟩:=ms hr23;refine go ?_;rintro rfl
  refine go ?_;unfold Lref03_Pad_k1 at q25;refine go ?_;refine lp 5 (fun (⟨p12,p13⟩ : Int×(List Int))=>⟨([.one (.v (.int .u64 a0))]++(und 2++([.one (.ms 5 0 0 (p13.length) 1),.one (.v (.int .i64 p12))]++(und 26))) : List PV),([(5,⟨0,1,intsR .u8 p13,false,true⟩)] : Boxes)⟩) q25 ?_;rintro ⟨p12,p13⟩ x31r hr31
  simp only [Lref03_Pad_s2] at hr31;unfold b94_2;refine nst ?_;refine go ?_;by_cases c32 : 0≤p12
  ·replace hr31:=ifP hr31
   refine go ?_;obtain ⟨_,hr31⟩:=bC hr31;obtain ⟨_,hr31⟩:=bC hr31;have n1_u34_0 : p13.length + 1≤140737488355328:=by omega
   have n2_u34_0 : p13.length + 1≤9223372036854775807:=by omega
   refine go ?_;exact bk hr31
  ·replace hr31:=ifN hr31
   refine go ?_;obtain ⟨r35,q35,rfl⟩:=ms hr31;refine go ?_;rintro rfl
   refine go ?_;unfold Lref03_Pad_k2 at q35;refine go ?_;exact fin q35
 ·have c24N:=nrm c24
  replace hr23:=ifP hr23
  refine go ?_;obtain ⟨_,hr23⟩:=bC hr23;have n1_u36_0 : p4.length + 1≤140737488355328:=by omega
  have n2_u36_0 : p4.length + 1≤9223372036854775807:=by omega
  refine go ?_;exact bk hr23
theorem w95 : Walk tt G [] (fun _=>[]) Tryz.f95 K95:=by
 refine .of [] false body95 Tryz.ntmps95 fun T hO hT _ x hr=>⟨by simp,?_⟩
 simp only [tabAll] at hT; simp only at hr ⊢; unfold c95;unfold Lref03_Initial at hr;refine go ?_;exact fin hr
theorem w109 : Walk tt G [(117,K117.G)] (fun _=>[]) Tryz.f109 K109:=by
 refine .of [] false body109 Tryz.ntmps109 fun T hO hT ⟨a0,a1⟩ x hr=>⟨by simp,?_⟩
 simp only [tabAll] at hT; simp only at hr ⊢; unfold c109;unfold Lref03_rotr at hr;refine go ?_;obtain ⟨_,ehy2,hr⟩:=bN hr G117_eq;refine go ?_;exact fin hr
theorem w107 : Walk tt G [(109,K109.G)] (fun _=>[]) Tryz.f107 K107:=by
 refine .of [(3,⟨[1,2,3,4],[1,2,3],[]⟩),(7,⟨[2,3,5],[2,3],[]⟩)] false body107 Tryz.ntmps107 fun T hO hT a0 x hr=>⟨by simp,?_⟩
 simp only [tabAll] at hT; simp only at hr ⊢; unfold c107;unfold Lref03_schedule at hr;refine go ?_;refine lp 3 (fun (⟨p12,p13⟩ : Int×(Arr 64))=>⟨(und 1++([.ptr 1 0 0 0 64,.ptr 2 0 0 0 64,.ptr 3 0 0 0 64,.one (.v (.int .i64 p12))]++(und 92)) : List PV),([(1,⟨0,64,[arC .u8 a0],false,false⟩),(2,⟨0,64,[arC .u32 (zA 64)],false,false⟩),(3,⟨0,64,[arC .u32 p13],false,false⟩)] : Boxes)⟩) hr ?_;rintro ⟨p12,p13⟩ x80r hr80
 simp only [Lref03_schedule_s1] at hr80;unfold b107_1;refine nst ?_;refine go ?_;by_cases c81 : p12 < 16
 ·replace hr80:=ifP hr80
  refine go ?_;obtain ⟨j82,⟨_,_,_⟩,hr80⟩:=bA hr80;have j82d : j82≤63:=by omega
  obtain ⟨j85,⟨_,_,_⟩,hr80⟩:=bA hr80;have j85d : j85≤63:=by omega
  obtain ⟨j88,⟨_,_,_⟩,hr80⟩:=bA hr80;have j88d : j88≤63:=by omega
  obtain ⟨j91,⟨_,_,_⟩,hr80⟩:=bA hr80;have j91d : j91≤63:=by omega
  obtain ⟨j94,⟨_,_,_⟩,hr80⟩:=bA hr80;have j94d : j94≤63:=by omega
  refine go ?_;exact bk hr80
 ·replace hr80:=ifN hr80
  refine go ?_;obtain ⟨r96,q96,rfl⟩:=ms hr80;refine go ?_;rintro rfl
  refine go ?_;unfold Lref03_schedule_k1 at q96;refine go ?_;refine lp 7 (fun (⟨p38,p39⟩ : Int×(Arr 64))=>⟨(und 2++([.ptr 2 0 0 0 64,.ptr 3 0 0 0 64]++(und 1++([.one (.v (.int .i64 p38))]++(und 91)))) : List PV),([(2,⟨0,64,[arC .u32 (zA 64)],false,false⟩),(3,⟨0,64,[arC .u32 p39],false,false⟩)] : Boxes)⟩) q96 ?_;rintro ⟨p38,p39⟩ x126r hr126
  simp only [Lref03_schedule_s2] at hr126;unfold b107_2;refine nst ?_;refine go ?_;by_cases c127 : p38 < 64
  ·replace hr126:=ifP hr126
   refine go ?_;obtain ⟨j128,⟨_,_,_⟩,hr126⟩:=bA hr126;have j128d : j128≤63:=by omega
   obtain ⟨_,ehy131,hr126⟩:=bN hr126 G109_eq;have j128d : j128≤63:=by omega
   obtain ⟨_,ehy134,hr126⟩:=bN hr126 G109_eq;have j128d : j128≤63:=by omega
   refine go ?_;obtain ⟨j137,⟨_,_,_⟩,hr126⟩:=bA hr126;have j137d : j137≤63:=by omega
   obtain ⟨_,ehy140,hr126⟩:=bN hr126 G109_eq;have j137d : j137≤63:=by omega
   obtain ⟨_,ehy143,hr126⟩:=bN hr126 G109_eq;have j137d : j137≤63:=by omega
   refine go ?_;obtain ⟨j146,⟨_,_,_⟩,hr126⟩:=bA hr126;have j146d : j146≤63:=by omega
   obtain ⟨j149,⟨_,_,_⟩,hr126⟩:=bA hr126;have j149d : j149≤63:=by omega
   obtain ⟨j152,⟨_,_,_⟩,hr126⟩:=bA hr126;have j152d : j152≤63:=by omega
   refine go ?_;exact bk hr126
  ·replace hr126:=ifN hr126
   refine go ?_;obtain ⟨r154,q154,rfl⟩:=ms hr126;refine go ?_;rintro rfl
   refine go ?_;unfold Lref03_schedule_k2 at q154;refine go ?_;exact fin q154
theorem w108 : Walk tt G [] (fun _=>[]) Tryz.f108 K108:=by
 refine .of [] false body108 Tryz.ntmps108 fun T hO hT _ x hr=>⟨by simp,?_⟩
 simp only [tabAll] at hT; simp only at hr ⊢; unfold c108;unfold Lref03_constants at hr;refine go ?_;exact fin hr
theorem w96 : Walk tt G [(107,K107.G),(108,K108.G),(109,K109.G)] (fun _=>[]) Tryz.f96 K96:=by
 refine .of [(4,⟨[2,4,5,6,7,8,9,10,11,12,13,14,15],[2,4,5,6],[]⟩)] false body96 Tryz.ntmps96 fun T hO hT ⟨a0,a1⟩ x hr=>⟨by simp,?_⟩
 simp only [tabAll] at hT; simp only at hr ⊢; unfold c96;unfold Lref03_Compress at hr;refine go ?_;obtain ⟨y48,ehy48,hr⟩:=bN hr G107_eq;obtain ⟨y49,ehy49,hr⟩:=bN hr G108_eq;refine go ?_;refine lp 4 (fun (⟨p25,p26,p27,p28,p29,p30,p31,p32,p33⟩ : Int×Int×Int×Int×Int×Int×Int×Int×Int)=>⟨(und 2++([.ptr 2 0 0 0 8]++(und 1++([.ptr 4 0 0 0 8,.ptr 5 0 0 0 64,.ptr 6 0 0 0 64,.one (.v (.int .u32 p25)),.one (.v (.int .u32 p26)),.one (.v (.int .u32 p27)),.one (.v (.int .u32 p28)),.one (.v (.int .u32 p29)),.one (.v (.int .u32 p30)),.one (.v (.int .u32 p31)),.one (.v (.int .u32 p32)),.one (.v (.int .i64 p33))]++(und 117)))) : List PV),([(2,⟨0,8,[arC .u32 a0],false,false⟩),(4,⟨0,8,[arC .u32 (zA 8)],false,false⟩),(5,⟨0,64,[arC .u32 y48],false,false⟩),(6,⟨0,64,[arC .u32 y49],false,false⟩)] : Boxes)⟩) hr ?_;rintro ⟨p25,p26,p27,p28,p29,p30,p31,p32,p33⟩ x80r hr80
 simp only [Lref03_Compress_s1] at hr80;unfold b96_1;refine nst ?_;refine go ?_;by_cases c81 : p33 < 64
 ·replace hr80:=ifP hr80
  refine go ?_;obtain ⟨_,ehy82,hr80⟩:=bN hr80 G109_eq;obtain ⟨_,ehy83,hr80⟩:=bN hr80 G109_eq;obtain ⟨_,ehy84,hr80⟩:=bN hr80 G109_eq;obtain ⟨j85,⟨_,_,_⟩,hr80⟩:=bA hr80;have j85d : j85≤63:=by omega
  have j85d : j85≤63:=by omega
  refine go ?_;obtain ⟨_,ehy90,hr80⟩:=bN hr80 G109_eq;obtain ⟨_,ehy91,hr80⟩:=bN hr80 G109_eq;obtain ⟨_,ehy92,hr80⟩:=bN hr80 G109_eq;refine go ?_;exact bk hr80
 ·replace hr80:=ifN hr80
  refine go ?_;obtain ⟨r93,q93,rfl⟩:=ms hr80;refine go ?_;rintro rfl
  refine go ?_;unfold Lref03_Compress_k1 at q93;refine go ?_;exact fin q93
def kp81 : Keep:=fun i=>if i = 4 then ⟨[2,3,4,5],[2,4,11],[]⟩ else if i = 11 then ⟨[2,7,33,34],[2,7],[]⟩ else ⟨[],[],[]⟩
theorem w81 {T : Tab} (hO : T.own = fun _=>[]) (hT94 : T 94 = some K94.G) (hT95 : T 95 = some K95.G) (hT96 : T 96 = some K96.G) (a0 : (List Int)) (x : (Arr 32)) (hr : Lref03_Sum a0 = some x) : ∃ kp fl n,execFn tt T G kp fl n Tryz.f81 (E81 a0) = some (R81 a0 x):=by
 simp only [E81,R81];refine fnE (kp:=kp81) (w:=false) body81 (by simp) ?_;unfold c81;rw [Tryz.ntmps81];unfold Lref03_Sum at hr;refine ee_seq_reg rfl (by simp [-intsR_app,-List.take_append,-List.drop_append,]; rfl) ?_;obtain ⟨_,u40,hr⟩:=bs hr;have u40_0:=chk_some u40;have n1_u40_0 : a0.length≤140737488355328:=by omega
 have n2_u40_0 : a0.length≤9223372036854775807:=by omega
 obtain ⟨y41,hy41,hr⟩:=bs hr;have ehy41:=G94_eq hy41;simp only [K94,nf,nfs] at ehy41;obtain ⟨_,u42,hr⟩:=bs hr;have u42_0:=chk_some u42;have n1_u42_0 : a0.length + y41.length≤140737488355328:=by omega
 have n2_u42_0 : a0.length + y41.length≤9223372036854775807:=by omega
 refine ee_seq_reg rfl (by simp [-intsR_app,-List.take_append,-List.drop_append,n1_u40_0,n2_u40_0,hO,hT94,ehy41,n1_u42_0,n2_u42_0]; rfl) ?_;obtain ⟨y43,hy43,hr⟩:=bs hr;have ehy43:=G95_eq hy43;simp only [K95,nf,nfs] at ehy43;refine ee_seq_reg rfl (by simp [-intsR_app,-List.take_append,-List.drop_append,hO,hT95,ehy43]; rfl) ?_;refine ee_assoc ?_;refine ee_seq_reg rfl (by simp [-intsR_app,-List.take_append,-List.drop_append,]; rfl) ?_;refine ee_seq_block ?_;refine ee_loop (kq:=⟨[2,3,4,5],[2,4,11],[]⟩) (H:=fun (s : Int×(Arr 8))=>match s with | (p11,p12)=>(⟨(und 2++([.ptr 2 0 0 0 32,.one (.ms 11 0 0 (a0.length + y41.length) 1),.ptr 4 0 0 0 8,.one (.v (.int .i64 p11))]++(und 60)) : List PV),([(2,⟨0,32,[arC .u8 (zA 32)],false,false⟩),(4,⟨0,8,[arC .u32 p12],false,false⟩),(11,⟨0,1,intsR .u8 (a0++y41),false,true⟩)] : Boxes)⟩ : ASt)) (by kernel_rfl) hr (by simp [und,List.replicate,]) ?_;rintro ⟨p11,p12⟩ x52r hr52
 simp only [Lref03_Sum_s1] at hr52;unfold b81_1;simp only [und,List.replicate,List.cons_append,List.nil_append];refine ee_assoc ?_;refine ee_seq_reg rfl (by simp [-intsR_app,-List.take_append,-List.drop_append,]; rfl) ?_;by_cases c53 : IntKind.i64.wrap (p11 + 64)≤(a0.length + y41.length : Int)
 ·skip
  have c53N:=c53;try simp at c53N
  first | have c53M : (_ = _) = True:=eq_true c53N | have c53M:=c53N
  rw [if_pos] at hr52;rotate_left
  ·simp [c53,c53M]
  refine ee_seq_condT (by simp [bV,c53,c53M]) ?_;refine ee_seq_skip ?_;refine ee_seq_block ?_;refine ee_seq_reg rfl (by simp [-intsR_app,-List.take_append,-List.drop_append,c53,c53M] <;> rfl) ?_;obtain ⟨_,u54,hr52⟩:=bs hr52;obtain ⟨u54_0,u54_1⟩:=chk_some u54
  have lu54_1 : p11≤((a0.length + y41.length : Nat) : Int):=by
   have h:=u54_1;try simp at h
   omega
  try simp only [Int.natCast_add] at lu54_1
  have sf55 : (p11).toNat≤(a0++y41).length:=by omega
  have sf56 : (p11).toNat≤a0.length + y41.length:=by omega
  have al57:=eq_true (fun l h=>intsR_all l (List.mem_of_mem_drop h) : ∀ l,l∈List.drop ((p11).toNat) (intsR .u8 (a0++y41))→l.length = 1);have ov57:=over_put (k:=.u8) (a:=zA 64) (l:=(a0++y41).drop (p11).toNat);try simp only [intsR_nil,intsR_cons,intsR_tk,intsR_dr,intsR_st,intsR_rep,List.length_drop,List.length_append] at ov57
  refine ee_seq_draw rfl (by simp [-intsR_app,-List.take_append,-List.drop_append,u54_0,u54_1,lu54_1,sf55,sf56,al57,ov57,c53,c53M]; first | exact ⟨rfl,rfl⟩ | rfl) (by kernel_rfl) ?_;obtain ⟨y58,hy58,hr52⟩:=bs hr52;have ehy58:=G96_eq hy58;simp only [K96,nf,nfs] at ehy58;refine ee_reg rfl (by simp [-intsR_app,-List.take_append,-List.drop_append,hO,hT96,ehy58,c53,c53M] <;> rfl) ?_;simp only [pq,reduceCtorEq];refine ee_reg rfl (by simp [-intsR_app,-List.take_append,-List.drop_append,c53,c53M] <;> rfl) ?_;obtain rfl:=Option.some.inj hr52;simp only [pq,reduceCtorEq];simp [und,List.replicate,Nat.add_assoc,c53,c53M]
 ·skip
  have c53N:=c53;try simp at c53N
  first | have c53M : (_ = _) = True:=eq_true c53N | have c53M:=c53N
  rw [if_neg] at hr52;rotate_left
  ·simp [c53,c53M]
  refine ee_seq_condF (by simp [bV,c53,c53M]) ?_;refine ee_seq_exit ?_;obtain ⟨r59,q59,rfl⟩:=ms hr52;simp only [pq,reduceCtorEq];rintro rfl
  try simp only [pq,reduceCtorEq]
  unfold Lref03_Sum_k1 at q59;refine ee_seq_reg rfl (by simp [-intsR_app,-List.take_append,-List.drop_append,c53,c53M] <;> rfl) ?_;refine ee_assoc ?_;refine ee_seq_reg rfl (by simp [-intsR_app,-List.take_append,-List.drop_append,c53,c53M] <;> rfl) ?_;refine ee_seq_block ?_;refine ee_loop (kq:=⟨[2,7,33,34],[2,7],[]⟩) (H:=fun (s : Int×(Arr 32))=>match s with | (p26,p27)=>(⟨(und 2++([.ptr 2 0 0 0 32]++(und 4++([.ptr 7 0 0 0 32]++(und 25++([.agg (arC .u32 p12),.one (.v (.int .i64 p26))]++(und 31)))))) : List PV),([(2,⟨0,32,[arC .u8 (zA 32)],false,false⟩),(7,⟨0,32,[arC .u8 p27],false,false⟩)] : Boxes)⟩ : ASt)) (by kernel_rfl) q59 (by simp [und,List.replicate,c53,c53M]) ?_;rintro ⟨p26,p27⟩ x74r hr74
  simp only [Lref03_Sum_s2] at hr74;unfold b81_2;simp only [und,List.replicate,List.cons_append,List.nil_append];refine ee_seq_reg rfl (by simp [-intsR_app,-List.take_append,-List.drop_append,c53,c53M] <;> rfl) ?_;by_cases c75 : p26 < 8
  ·skip
   rw [if_pos] at hr74;rotate_left
   ·simp [c53,c53M,c75]
   refine ee_seq_condT (by simp [bV,c53,c53M,c75]) ?_;refine ee_seq_skip ?_;refine ee_seq_block ?_;obtain ⟨j76,hj76,hr74⟩:=bs hr74;obtain ⟨j76a,j76b,j76c⟩:=inA_some hj76;have j76d : j76≤7:=by omega
   have ar77:=arC_get (k:=.u32) (p12) (i:=j76) j76c;have as78:=arC_sub (k:=.u32) (p12) (i:=j76) j76c;refine ee_seq_reg rfl (by simp [-intsR_app,-List.take_append,-List.drop_append,j76a,j76b,j76c,j76d,ar77,as78,c53,c53M,c75] <;> rfl) ?_;obtain ⟨j79,hj79,hr74⟩:=bs hr74;obtain ⟨j79a,j79b,j79c⟩:=inA_some hj79;have j79d : j79≤31:=by omega
   have ap80:=arC_put (k:=.u8) (p27) (i:=j79) j79c (IntKind.u8.wrap ((p12.at j76).fdiv 16777216));obtain ⟨j81,hj81,hr74⟩:=bs hr74;obtain ⟨j81a,j81b,j81c⟩:=inA_some hj81;have j81d : j81≤31:=by omega
   have ap82:=arC_put (k:=.u8) (p27.put j79 (IntKind.u8.wrap ((p12.at j76).fdiv 16777216))) (i:=j81) j81c (IntKind.u8.wrap ((p12.at j76).fdiv 65536));obtain ⟨j83,hj83,hr74⟩:=bs hr74;obtain ⟨j83a,j83b,j83c⟩:=inA_some hj83;have j83d : j83≤31:=by omega
   have ap84:=arC_put (k:=.u8) ((p27.put j79 (IntKind.u8.wrap ((p12.at j76).fdiv 16777216))).put j81 (IntKind.u8.wrap ((p12.at j76).fdiv 65536))) (i:=j83) j83c (IntKind.u8.wrap ((p12.at j76).fdiv 256));obtain ⟨j85,hj85,hr74⟩:=bs hr74;obtain ⟨j85a,j85b,j85c⟩:=inA_some hj85;have j85d : j85≤31:=by omega
   have ap86:=arC_put (k:=.u8) (((p27.put j79 (IntKind.u8.wrap ((p12.at j76).fdiv 16777216))).put j81 (IntKind.u8.wrap ((p12.at j76).fdiv 65536))).put j83 (IntKind.u8.wrap ((p12.at j76).fdiv 256))) (i:=j85) j85c (IntKind.u8.wrap (p12.at j76));refine ee_reg rfl (by simp [-intsR_app,-List.take_append,-List.drop_append,j79a,j79b,j79c,j79d,ap80,j81a,j81b,j81c,j81d,ap82,j83a,j83b,j83c,j83d,ap84,j85a,j85b,j85c,j85d,ap86,c53,c53M,c75] <;> rfl) ?_;simp only [pq,reduceCtorEq];refine ee_reg rfl (by simp [-intsR_app,-List.take_append,-List.drop_append,c53,c53M,c75] <;> rfl) ?_;obtain rfl:=Option.some.inj hr74;simp only [pq,reduceCtorEq];simp [und,List.replicate,Nat.add_assoc,c53,c53M,c75]
  ·skip
   rw [if_neg] at hr74;rotate_left
   ·simp [c53,c53M,c75]
   refine ee_seq_condF (by simp [bV,c53,c53M,c75]) ?_;refine ee_seq_exit ?_;obtain ⟨r87,q87,rfl⟩:=ms hr74;simp only [pq,reduceCtorEq];rintro rfl
   try simp only [pq,reduceCtorEq]
   unfold Lref03_Sum_k2 at q87;refine ee_seq_reg rfl (by simp [-intsR_app,-List.take_append,-List.drop_append,c53,c53M,c75] <;> rfl) ?_;refine ee_ret ?_;obtain rfl:=Option.some.inj q87;simp [FinQ,c53,c53M,c75,c53N]
theorem w53 : Walk tt G [(81,G81)] (fun _=>[]) Tryz.f53 K53:=by
 refine .of [] false body53 Tryz.ntmps53 fun T hO hT a0 x hr=>⟨by simp,?_⟩
 simp only [tabAll] at hT; simp only at hr ⊢; unfold c53;unfold Lref03_Double at hr;refine go ?_;obtain ⟨_,ehy3,hr⟩:=bG hr fun _=>G81_eq
 simp only [E81,R81,nf,nfs] at ehy3;refine go ?_;obtain ⟨_,ehy4,hr⟩:=bG hr fun _=>G81_eq
 simp only [E81,R81,nf,nfs] at ehy4;refine go ?_;exact fin hr
theorem w22 : Walk tt G [(52,K52.G),(53,K53.G),(54,K54.G)] (fun _=>[]) Tryz.f22 K22:=by
 refine .of [] false body22 Tryz.ntmps22 fun T hO hT a0 x hr=>⟨by simp,?_⟩
 simp only [tabAll] at hT; simp only at hr ⊢; unfold c22;unfold Lref09_ID at hr;refine go ?_;obtain ⟨y4,ehy4,hr⟩:=bN hr G52_eq;refine go ?_;by_cases c5 : y4 = true
 ·replace hr:=ifN hr
  refine go ?_;obtain ⟨_,ehy6,hr⟩:=bN hr G54_eq;obtain ⟨_,ehy7,hr⟩:=bN hr G53_eq;refine go ?_;exact fin hr
 ·replace hr:=ifP hr
  refine go ?_;exact fin hr
theorem w8 : Walk tt G [(7,K7.G),(9,K9.G),(22,K22.G)] (fun _=>[]) Tryz.f8 K8:=by
 refine .of [(1000004,⟨[0,3,4,5],[3,4,5,7,100007,1000000],[]⟩),(1000006,⟨[4,5],[4,5,7,100007,1000000],[]⟩)] true body8 Tryz.ntmps8 fun T hO hT ⟨a0,a1⟩ x hr=>⟨by simp,?_⟩
 simp only [tabAll] at hT; simp only at hr ⊢; unfold c8;unfold Llaw36_heir at hr;refine go ?_;obtain ⟨y16,ehy16,hr⟩:=bN hr G7_eq;refine go ?_;refine ee_seq_J hr (fun (s : Tlightclientmill_Deck×(List Tapi_Input))=>match s with | (p5,p6)=>(⟨([.ptr 1000000 0 0 0 2]++(und 2++([.ptr 3 0 0 0 4,.ptr 4 0 0 0 4,.ptr 5 0 0 0 4]++(und 31))) : List PV),([(3,⟨0,4,[[.v (.int .u32 a1.1),.slice .no (List.map eapi_Input a1.2.1),.slice .no (List.map eapi_Output a1.2.2.1),.v (.int .u32 a1.2.2.2)]],false,false⟩),(4,⟨0,4,[[.v (.int .u32 0),.slice .nil [],.slice .nil [],.v (.int .u32 0)]],false,false⟩),(5,⟨0,4,[[.v (.int .u32 y16.1.1),.ms 7 0 0 (p6.length) 35,.ms 100007 0 0 (y16.1.2.2.1.length) 2,.v (.int .u32 y16.1.2.2.2)]],false,false⟩),(7,⟨0,35,List.map eapi_Input p6,false,true⟩),(100007,⟨0,2,List.map eapi_Output y16.1.2.2.1,false,true⟩),(1000000,⟨0,2,[[.slice .no (intsR .i64 p5.1),.v (.int .i64 p5.2)]],false,false⟩)] : Boxes)⟩ : ASt)) (fun (s : Tlightclientmill_Deck×(List Tapi_Input))=>match s with | (p5,p6)=>Llaw36_heir_k1 a1 y16 p5 p6) ?_ ?_
 ·rintro ⟨p5,p6⟩ hk21
  change Llaw36_heir_k1 a1 y16 p5 p6 = _ at hk21
  refine nst ?_;unfold Llaw36_heir_k1 at hk21;refine go ?_;obtain ⟨y22,ehy22,hk21⟩:=bN hk21 G9_eq;refine ee_seq_regJ rfl (kq:=⟨[0,3,4,5],[3,4,5,7,100007,1000000],[]⟩) rfl (by simp [joinSt, *]; rfl) (by simp [*]; rfl) ?_;refine ee_seq_J hk21 (fun (s : (List Tapi_Input))=>match s with | p10=>(⟨(und 4++([.ptr 4 0 0 0 4,.ptr 5 0 0 0 4]++(und 31)) : List PV),([(4,⟨0,4,[[.v (.int .u32 0),.slice .nil [],.slice .nil [],.v (.int .u32 0)]],false,false⟩),(5,⟨0,4,[[.v (.int .u32 y16.1.1),.ms 7 0 0 (p10.length) 35,.ms 100007 0 0 (y16.1.2.2.1.length) 2,.v (.int .u32 y16.1.2.2.2)]],false,false⟩),(7,⟨0,35,List.map eapi_Input p10,false,true⟩),(100007,⟨0,2,List.map eapi_Output y16.1.2.2.1,false,true⟩),(1000000,⟨0,2,[[.slice .no (intsR .i64 y22.2.1),.v (.int .i64 y22.2.2)]],false,false⟩)] : Boxes)⟩ : ASt)) (fun (s : (List Tapi_Input))=>match s with | p10=>Llaw36_heir_k2 y16 y22 p10) ?_ ?_
  ·rintro p10 hk26
   change Llaw36_heir_k2 y16 y22 p10 = _ at hk26
   refine nst ?_;unfold Llaw36_heir_k2 at hk26;refine ee_seq_regJ rfl (kq:=⟨[4,5],[4,5,7,100007,1000000],[]⟩) rfl (by simp [joinSt, *]; rfl) (by simp [*]; rfl) ?_;refine go ?_;exact fin hk26
  ·intro J26
   rcases eqT (y22.1 = 0) with c27 | c27
   ·replace hk21:=ifP hk21
    refine go ?_;obtain ⟨y28,ehy28,hk21⟩:=bN hk21 G22_eq;obtain ⟨_,hk21⟩:=bC hk21;have n1_u29_0 : (p6.length + 1) * 64≤140737488355328:=by omega
    have n2_u29_0 : p6.length + 1≤9223372036854775807:=by omega
    refine go ?_;exact jn 1000006 (J26 (p6++[((y28,0),0,([] : (List (List Int))))]) hk21)
   ·replace hk21:=ifN hk21
    refine go ?_;exact jn 1000006 (J26 p6 hk21)
 ·intro J21
  by_cases c30 : 0 < (a1.2.1.length : Int)
  ·have c30N:=nrm c30
   replace hr:=ifP hr
   refine go ?_;obtain ⟨y31,ehy31,hr⟩:=bN hr G9_eq;obtain ⟨x32,⟨_,_,_⟩,hr⟩:=bI hr;obtain ⟨_,hr⟩:=bC hr;refine go ?_;exact jn 1000004 (J21 (y31.2,(y16.1.2.1).set 0 x32) hr)
  ·have c30N:=nrm c30
   have c30L : ¬ 0 < a1.2.1.length:=by omega
   replace hr:=ifN hr
   refine go ?_;exact jn 1000004 (J21 (y16.2,y16.1.2.1) hr)
theorem w24 : Walk tt G [(42,K42.G),(46,K46.G),(47,K47.G)] (fun _=>[]) Tryz.f24 K24:=by
 refine .of [(3,⟨[3,9,10,11],[1000000000008],[]⟩),(8,⟨[3,9,10,11,32,33,34],[1000000000008],[]⟩)] false body24 Tryz.ntmps24 fun T hO hT a0 x hr=>⟨by simp,?_⟩
 simp only [tabAll] at hT; simp only at hr ⊢; unfold c24;unfold Lreplace_sound at hr;refine go ?_;refine lp 3 (fun (⟨p29,p30⟩ : Int×(List (Tapi_OutPoint×Bool)))=>⟨(und 3++([.one (.mp 1000000000008 0)]++(und 5++([.one (.slice .no (List.map eapi_Entry a0)),.one (.v (.int .i64 (a0.length : Int))),.one (.v (.int .i64 p29))]++(und 35)))) : List PV),([(1000000000008,⟨0,6,((arC .u8 (zA 32))++((.v (.int .u32 0)) :: [])) :: List.map eM_api_OutPoint_B p30,false,false⟩)] : Boxes)⟩) hr ?_;rintro ⟨p29,p30⟩ x83r hr83
 simp only [Lreplace_sound_s1] at hr83;unfold b24_1;refine nst ?_;refine go ?_;by_cases c84 : p29 < (a0.length : Int)
 ·have c84N:=nrm c84
  replace hr83:=ifP hr83
  refine go ?_;obtain ⟨x85,⟨_,_,_⟩,hr83⟩:=bI hr83;refine go ?_;obtain ⟨y86,ehy86,hr83⟩:=bN hr83 G42_eq;rcases eqT (y86 = 0) with c87 | c87
  ·replace hr83:=ifNb hr83
   obtain ⟨_,hz88,hr83⟩:=bs hr83;obtain ⟨y89,ehy89,hz88⟩:=bN hz88 G46_eq;obtain rfl:=Option.some.inj hz88;by_cases c90 : y89 = true
   ·replace hr83:=ifPb hr83
    obtain ⟨_,hz91,hr83⟩:=bs hr83;obtain rfl:=Option.some.inj hz91;refine go ?_
    replace hr83:=ifP hr83
    refine go ?_;exact fin hr83
   ·replace hr83:=ifNb hr83
    obtain ⟨_,hz92,hr83⟩:=bs hr83;obtain ⟨y93,ehy93,hz92⟩:=bN hz92 G47_eq;obtain rfl:=Option.some.inj hz92;refine go ?_;by_cases c94 : y93 = true
    ·replace hr83:=ifN hr83
     refine go ?_;refine lp 8 (fun (⟨p54,p55⟩ : Int×(List (Tapi_OutPoint×Bool)))=>⟨(und 3++([.one (.mp 1000000000008 0)]++(und 5++([.one (.slice .no (List.map eapi_Entry a0)),.one (.v (.int .i64 (a0.length : Int))),.one (.v (.int .i64 p29))]++(und 20++([.one (.slice .no (List.map eapi_Input x85.1.2.1)),.one (.v (.int .i64 (x85.1.2.1.length : Int))),.one (.v (.int .i64 p54))]++(und 12)))))) : List PV),([(1000000000008,⟨0,6,((arC .u8 (zA 32))++((.v (.int .u32 0)) :: [])) :: List.map eM_api_OutPoint_B p55,false,false⟩)] : Boxes)⟩) hr83 ?_;rintro ⟨p54,p55⟩ x100r hr100
     simp only [Lreplace_sound_s2] at hr100;unfold b24_2;refine nst ?_;refine go ?_;by_cases c101 : p54 < (x85.1.2.1.length : Int)
     ·have c101N:=nrm c101
      replace hr100:=ifP hr100
      refine go ?_;obtain ⟨x102,⟨_,_,_⟩,hr100⟩:=bI hr100;refine go ?_;by_cases c103 : (mget x102.1 p55).getD false = true
      ·replace hr100:=ifP hr100
       refine go ?_;exact fin hr100
      ·replace hr100:=ifN hr100
       refine go ?_;exact bk hr100
     ·have c101N:=nrm c101
      replace hr100:=ifN hr100
      refine go ?_;obtain ⟨r104,q104,rfl⟩:=ms hr100;refine go ?_;rintro rfl
      refine go ?_;unfold Lreplace_sound_k2 at q104;refine go ?_;exact bk q104
    ·replace hr83:=ifP hr83
     refine go ?_;exact fin hr83
  ·replace hr83:=ifPb hr83
   obtain ⟨_,hz105,hr83⟩:=bs hr83;obtain rfl:=Option.some.inj hz105
   replace hr83:=ifPb hr83
   obtain ⟨_,hz106,hr83⟩:=bs hr83;obtain rfl:=Option.some.inj hz106;refine go ?_
   replace hr83:=ifP hr83
   refine go ?_;exact fin hr83
 ·have c84N:=nrm c84
  replace hr83:=ifN hr83
  refine go ?_;obtain ⟨r107,q107,rfl⟩:=ms hr83;refine go ?_;rintro rfl
  refine go ?_;unfold Lreplace_sound_k1 at q107;refine go ?_;exact fin q107
end Go.Proofs.YtjdoijdjeapekaaGreatDoor
