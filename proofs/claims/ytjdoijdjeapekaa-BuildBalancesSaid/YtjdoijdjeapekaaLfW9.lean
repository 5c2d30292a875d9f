import Derived.Test.YtjdoijdjeapekaaLfK
import Derived.Test.YtjdoijdjeapekaaCode
namespace Go.Proofs.Ytjdoijdjeapekaa
open Go.RowKit
open Go.Av
open Go.Lc
set_option maxRecDepth 100000
set_option linter.unusedSimpArgs false
set_option linter.unusedVariables false
set_option maxHeartbeats 4000000
variable {G : Glob}
theorem w52 : Walk tt G [(59,K59.G),(60,K60.G),(61,K61.G),(62,K62.G),(63,K63.G)] (fun _=>[]) Try.f52 K52:=by
 refine .of [(4,⟨[1,2,5,24,25,26],[2,900005],[(5,none,900005,0),(5,none,900005,1)]⟩),(10,⟨[1,2,5,46,47,48],[2,44],[]⟩),(1000026,⟨[5],[900005],[]⟩),(16,⟨[1,5,62,63,64],[900005],[(5,none,900005,0),(5,none,900005,1)]⟩),(21,⟨[1,5,62,63,64,77,78,79],[900005],[(5,none,900005,0),(5,none,900005,1)]⟩)] true body52 Try.ntmps52 fun T hO hT ⟨a0,a1⟩ x hr=>⟨by simp,?_⟩
 simp only [tabAll] at hT; simp only at hr ⊢; unfold c52;unfold Lref09_encode at hr;refine go ?_;obtain ⟨_,ehy95,hr⟩:=bN hr G59_eq;refine go ?_;obtain ⟨_,ehy96,hr⟩:=bN hr G60_eq;refine go ?_;refine lp 4 (fun (⟨p13,p14⟩ : Int×(List Int))=>⟨(und 1++([.one (.v (.bool a1)),.ptr 2 0 0 0 4]++(und 2++([.one (.ms 900005 0 0 (p14.length) 1)]++(und 18++([.one (.slice .no (List.map eapi_Input a0.2.1)),.one (.v (.int .i64 (a0.2.1.length : Int))),.one (.v (.int .i64 p13))]++(und 62)))))) : List PV),([(2,⟨0,4,[[.v (.int .u32 a0.1),.slice .no (List.map eapi_Input a0.2.1),.slice .no (List.map eapi_Output a0.2.2.1),.v (.int .u32 a0.2.2.2)]],false,false⟩),(900005,⟨0,1,intsR .u8 p14,false,true⟩)] : Boxes)⟩) hr ?_;rintro ⟨p13,p14⟩ x104r hr104
 simp only [Lref09_encode_s1] at hr104;unfold b52_1;refine nst ?_;refine go ?_;by_cases c105 : p13 < (a0.2.1.length : Int)
 ·have c105N:=nrm c105
  replace hr104:=ifP hr104
  refine go ?_;obtain ⟨_,⟨_,_,_⟩,hr104⟩:=bI hr104;refine go ?_;obtain ⟨y107,ehy107,hr104⟩:=bN hr104 G61_eq;obtain ⟨_,hr104⟩:=bC hr104;have n1_u108_0 : p14.length + y107.length≤140737488355328:=by omega
  have n2_u108_0 : p14.length + y107.length≤9223372036854775807:=by omega
  obtain ⟨_,ehy109,hr104⟩:=bN hr104 G59_eq;refine go ?_;exact bk hr104
 ·have c105N:=nrm c105
  replace hr104:=ifN hr104
  refine go ?_;obtain ⟨r110,q110,rfl⟩:=ms hr104;refine go ?_;rintro rfl
  refine go ?_;unfold Lref09_encode_k1 at q110;obtain ⟨_,ehy111,q110⟩:=bN q110 G60_eq;refine go ?_;refine lp 10 (fun (⟨p28,p29⟩ : Int×(List Int))=>⟨(und 1++([.one (.v (.bool a1)),.ptr 2 0 0 0 4]++(und 2++([.one (.ms 44 0 0 (p29.length) 1)]++(und 40++([.one (.slice .no (List.map eapi_Output a0.2.2.1)),.one (.v (.int .i64 (a0.2.2.1.length : Int))),.one (.v (.int .i64 p28))]++(und 40)))))) : List PV),([(2,⟨0,4,[[.v (.int .u32 a0.1),.slice .no (List.map eapi_Input a0.2.1),.slice .no (List.map eapi_Output a0.2.2.1),.v (.int .u32 a0.2.2.2)]],false,false⟩),(44,⟨0,1,intsR .u8 p29,false,true⟩)] : Boxes)⟩) q110 ?_;rintro ⟨p28,p29⟩ x118r hr118
  simp only [Lref09_encode_s2] at hr118;unfold b52_2;refine nst ?_;refine go ?_;by_cases c119 : p28 < (a0.2.2.1.length : Int)
  ·have c119N:=nrm c119
   replace hr118:=ifP hr118
   refine go ?_;obtain ⟨_,⟨_,_,_⟩,hr118⟩:=bI hr118;refine go ?_;obtain ⟨y121,ehy121,hr118⟩:=bN hr118 G62_eq;obtain ⟨_,hr118⟩:=bC hr118;have n1_u122_0 : p29.length + y121.length≤140737488355328:=by omega
   have n2_u122_0 : p29.length + y121.length≤9223372036854775807:=by omega
   refine go ?_;exact bk hr118
  ·have c119N:=nrm c119
   replace hr118:=ifN hr118
   refine go ?_;obtain ⟨r123,q123,rfl⟩:=ms hr118;refine go ?_;rintro rfl
   refine go ?_;unfold Lref09_encode_k2 at q123;obtain ⟨_,ehy124,q123⟩:=bN q123 G59_eq;refine go ?_;refine ee_J q123 (.exit 4) (fun (s : (List Int))=>match s with | p61=>(⟨(und 5++([.one (.ms 900005 0 0 (p61.length) 1)]++(und 83)) : List PV),([(900005,⟨0,1,intsR .u8 p61,false,true⟩)] : Boxes)⟩ : ASt)) (fun (s : (List Int))=>match s with | p61=>Lref09_encode_k3 p61) ?_ ?_
   ·rintro p61 hk142
    change Lref09_encode_k3 p61 = _ at hk142
    refine go ?_;refine nst ?_;unfold Lref09_encode_k3 at hk142;refine ee_seq_regJ rfl (kq:=⟨[5],[900005],[]⟩) rfl (by simp [joinSt, *]; rfl) (by simp [*] <;> rfl) ?_;refine go ?_;exact fin hk142
   ·intro J142
    simp only [pq,reduceCtorEq] at J142;refine lp 16 (fun (⟨p60,p61⟩ : Int×(List Int))=>⟨(und 1++([.one (.v (.bool a1))]++(und 3++([.one (.ms 900005 0 0 (p61.length) 1)]++(und 56++([.one (.slice .no (List.map eapi_Input a0.2.1)),.one (.v (.int .i64 (a0.2.1.length : Int))),.one (.v (.int .i64 p60))]++(und 24)))))) : List PV),([(900005,⟨0,1,intsR .u8 p61,false,true⟩)] : Boxes)⟩) q123 ?_;rintro ⟨p60,p61⟩ x143r hr143
    simp only [Lref09_encode_s3] at hr143;unfold b52_3;refine nst ?_;refine go ?_;by_cases c144 : p60 < (a0.2.1.length : Int)
    ·have c144N:=nrm c144
     replace hr143:=ifP hr143
     refine go ?_;obtain ⟨x145,⟨_,_,_⟩,hr143⟩:=bI hr143;refine go ?_;by_cases c146 : a1 = true
     ·replace hr143:=ifN hr143
      refine go ?_;obtain ⟨_,ehy147,hr143⟩:=bN hr143 G60_eq;refine go ?_;refine lp 21 (fun (⟨p82,p83⟩ : Int×(List Int))=>⟨(und 1++([.one (.v (.bool a1))]++(und 3++([.one (.ms 900005 0 0 (p83.length) 1)]++(und 56++([.one (.slice .no (List.map eapi_Input a0.2.1)),.one (.v (.int .i64 (a0.2.1.length : Int))),.one (.v (.int .i64 p60))]++(und 12++([.one (.slice .no (List.map eS_I_u8 x145.2.2)),.one (.v (.int .i64 (x145.2.2.length : Int))),.one (.v (.int .i64 p82))]++(und 9)))))))) : List PV),([(900005,⟨0,1,intsR .u8 p83,false,true⟩)] : Boxes)⟩) hr143 ?_;rintro ⟨p82,p83⟩ x153r hr153
      simp only [Lref09_encode_s4] at hr153;unfold b52_4;refine nst ?_;refine go ?_;by_cases c154 : p82 < (x145.2.2.length : Int)
      ·have c154N:=nrm c154
       replace hr153:=ifP hr153
       refine go ?_;obtain ⟨_,⟨_,_,_⟩,hr153⟩:=bI hr153;refine go ?_;obtain ⟨_,ehy156,hr153⟩:=bN hr153 G63_eq;refine go ?_;exact bk hr153
      ·have c154N:=nrm c154
       replace hr153:=ifN hr153
       refine go ?_;obtain ⟨r157,q157,rfl⟩:=ms hr153;refine go ?_;rintro rfl
       refine go ?_;unfold Lref09_encode_k4 at q157;refine go ?_;exact bk q157
     ·replace hr143:=ifP hr143
      refine go ?_;obtain ⟨r158,q158,rfl⟩:=ms hr143;refine go ?_;rintro rfl
      refine go ?_;exact jn 1000026 (J142 p61 q158)
    ·have c144N:=nrm c144
     replace hr143:=ifN hr143
     refine go ?_;obtain ⟨r159,q159,rfl⟩:=ms hr143;refine go ?_;rintro rfl
     refine go ?_;exact jn 1000026 (J142 p61 q159)
theorem w40 : Walk tt G [(52,K52.G)] (fun _=>[]) Try.f40 K40:=by
 refine .of [(4,⟨[1,20,21,22],[1],[]⟩),(10,⟨[1,37,38,39],[1],[]⟩),(15,⟨[1,37,38,39,48,49,50],[1],[]⟩)] false body40 Try.ntmps40 fun T hO hT a0 x hr=>⟨by simp,?_⟩
 simp only [tabAll] at hT; simp only at hr ⊢; unfold c40;unfold Lref09_Fits at hr;refine go ?_;by_cases c35 : 64 < (a0.2.1.length : Int)
 ·have c35N:=nrm c35
  refine go ?_
  replace hr:=ifP hr
  refine go ?_;exact fin hr
 ·have c35N:=nrm c35
  refine go ?_;by_cases c36 : 64 < (a0.2.2.1.length : Int)
  ·have c36N:=nrm c36
   replace hr:=ifP hr
   refine go ?_;exact fin hr
  ·have c36N:=nrm c36
   replace hr:=ifN hr
   refine go ?_;refine lp 4 (fun (p4 : Int)=>⟨(und 1++([.ptr 1 0 0 0 4]++(und 18++([.one (.slice .no (List.map eapi_Output a0.2.2.1)),.one (.v (.int .i64 (a0.2.2.1.length : Int))),.one (.v (.int .i64 p4))]++(und 40)))) : List PV),([(1,⟨0,4,[[.v (.int .u32 a0.1),.slice .no (List.map eapi_Input a0.2.1),.slice .no (List.map eapi_Output a0.2.2.1),.v (.int .u32 a0.2.2.2)]],false,false⟩)] : Boxes)⟩) hr ?_;rintro p4 x43r hr43
   simp only [Lref09_Fits_s1] at hr43;unfold b40_1;refine nst ?_;refine go ?_;by_cases c44 : p4 < (a0.2.2.1.length : Int)
   ·have c44N:=nrm c44
    replace hr43:=ifP hr43
    refine go ?_;obtain ⟨x45,⟨_,_,_⟩,hr43⟩:=bI hr43;refine go ?_;by_cases c46 : x45.1 < 0
    ·refine go ?_
     replace hr43:=ifP hr43
     refine go ?_;exact fin hr43
    ·refine go ?_
     by_cases c47 : 520 < (x45.2.length : Int)
     ·have c47N:=nrm c47
      replace hr43:=ifP hr43
      refine go ?_;exact fin hr43
     ·have c47N:=nrm c47
      replace hr43:=ifN hr43
      refine go ?_;exact bk hr43
   ·have c44N:=nrm c44
    replace hr43:=ifN hr43
    refine go ?_;obtain ⟨r48,q48,rfl⟩:=ms hr43;refine go ?_;rintro rfl
    refine go ?_;unfold Lref09_Fits_k1 at q48;refine go ?_;refine lp 10 (fun (p19 : Int)=>⟨(und 1++([.ptr 1 0 0 0 4]++(und 35++([.one (.slice .no (List.map eapi_Input a0.2.1)),.one (.v (.int .i64 (a0.2.1.length : Int))),.one (.v (.int .i64 p19))]++(und 23)))) : List PV),([(1,⟨0,4,[[.v (.int .u32 a0.1),.slice .no (List.map eapi_Input a0.2.1),.slice .no (List.map eapi_Output a0.2.2.1),.v (.int .u32 a0.2.2.2)]],false,false⟩)] : Boxes)⟩) q48 ?_;rintro p19 x64r hr64
    simp only [Lref09_Fits_s2] at hr64;unfold b40_2;refine nst ?_;refine go ?_;by_cases c65 : p19 < (a0.2.1.length : Int)
    ·have c65N:=nrm c65
     replace hr64:=ifP hr64
     refine go ?_;obtain ⟨x66,⟨_,_,_⟩,hr64⟩:=bI hr64;refine go ?_;by_cases c67 : 32 < (x66.2.2.length : Int)
     ·have c67N:=nrm c67
      replace hr64:=ifP hr64
      refine go ?_;exact fin hr64
     ·have c67N:=nrm c67
      replace hr64:=ifN hr64
      refine go ?_;refine lp 15 (fun (p31 : Int)=>⟨(und 1++([.ptr 1 0 0 0 4]++(und 35++([.one (.slice .no (List.map eapi_Input a0.2.1)),.one (.v (.int .i64 (a0.2.1.length : Int))),.one (.v (.int .i64 p19))]++(und 8++([.one (.slice .no (List.map eS_I_u8 x66.2.2)),.one (.v (.int .i64 (x66.2.2.length : Int))),.one (.v (.int .i64 p31))]++(und 12)))))) : List PV),([(1,⟨0,4,[[.v (.int .u32 a0.1),.slice .no (List.map eapi_Input a0.2.1),.slice .no (List.map eapi_Output a0.2.2.1),.v (.int .u32 a0.2.2.2)]],false,false⟩)] : Boxes)⟩) hr64 ?_;rintro p31 x73r hr73
      simp only [Lref09_Fits_s3] at hr73;unfold b40_3;refine nst ?_;refine go ?_;by_cases c74 : p31 < (x66.2.2.length : Int)
      ·have c74N:=nrm c74
       replace hr73:=ifP hr73
       refine go ?_;obtain ⟨x75,⟨_,_,_⟩,hr73⟩:=bI hr73;refine go ?_;by_cases c76 : 520 < (x75.length : Int)
       ·have c76N:=nrm c76
        replace hr73:=ifP hr73
        refine go ?_;exact fin hr73
       ·have c76N:=nrm c76
        replace hr73:=ifN hr73
        refine go ?_;exact bk hr73
      ·have c74N:=nrm c74
       replace hr73:=ifN hr73
       refine go ?_;obtain ⟨r77,q77,rfl⟩:=ms hr73;refine go ?_;rintro rfl
       refine go ?_;unfold Lref09_Fits_k3 at q77;refine go ?_;exact bk q77
    ·have c65N:=nrm c65
     replace hr64:=ifN hr64
     refine go ?_;obtain ⟨r78,q78,rfl⟩:=ms hr64;refine go ?_;rintro rfl
     refine go ?_;unfold Lref09_Fits_k2 at q78;obtain ⟨_,ehy79,q78⟩:=bN q78 G52_eq;refine go ?_;exact fin q78
theorem w41 : Walk tt G [] (fun _=>[]) Try.f41 K41:=by
 refine .of [] false body41 Try.ntmps41 fun T hO hT a0 x hr=>⟨by simp,?_⟩
 simp only [tabAll] at hT; simp only at hr ⊢; unfold c41;unfold Lref09_Null at hr;refine go ?_;exact fin hr
theorem w42 : Walk tt G [(41,K41.G)] (fun _=>[]) Try.f42 K42:=by
 refine .of [] false body42 Try.ntmps42 fun T hO hT a0 x hr=>⟨by simp,?_⟩
 simp only [tabAll] at hT; simp only at hr ⊢; unfold c42;unfold Lref09_Coinbase at hr;refine go ?_;rcases eqT ((a0.2.1.length : Int) = 1) with c4 | c4
 ·have c4N:=nrm c4
  replace hr:=ifPb hr
  obtain ⟨_,hz5,hr⟩:=bs hr;obtain ⟨_,hx6,hz5⟩:=bs hz5;have hx6c:=getE_of hx6;obtain ⟨_,ehy7,hz5⟩:=bN hz5 G41_eq;obtain rfl:=Option.some.inj hz5;refine go ?_;exact fin hr
 ·have c4N:=nrm c4
  replace hr:=ifNb hr
  obtain ⟨_,hz8,hr⟩:=bs hr;obtain rfl:=Option.some.inj hz8;refine go ?_;exact fin hr
end Go.Proofs.Ytjdoijdjeapekaa
