import Derived.Test.YtjdoijdjeapekaaDoorLfK
import Derived.Test.YtjdoijdjeapekaaDoorCode
namespace Go.Proofs.YtjdoijdjeapekaaDoor
open Go.RowKit
open Go.Av
open Go.Lc
set_option maxRecDepth 100000
set_option linter.unusedSimpArgs false
set_option linter.unusedVariables false
set_option maxHeartbeats 4000000
theorem w22 : Walk tt G [(54,K54.G),(55,K55.G),(56,K56.G),(57,K57.G),(58,K58.G)] (fun _=>[]) Tryd.f22 K22:=by
 refine .of [(4,⟨[1,2,5,24,25,26],[2,900005],[(5,none,900005,0),(5,none,900005,1)]⟩),(10,⟨[1,2,5,46,47,48],[2,44],[]⟩),(1000026,⟨[5],[900005],[]⟩),(16,⟨[1,5,62,63,64],[900005],[(5,none,900005,0),(5,none,900005,1)]⟩),(21,⟨[1,5,62,63,64,77,78,79],[900005],[(5,none,900005,0),(5,none,900005,1)]⟩)] true body22 Tryd.ntmps22 fun T hO hT ⟨a0,a1⟩ x hr=>⟨by simp,?_⟩
 simp only [tabAll] at hT; simp only at hr ⊢; unfold c22;unfold Lref09_encode at hr;refine go ?_;obtain ⟨_,ehy95,hr⟩:=bN hr G54_eq;refine go ?_;obtain ⟨_,ehy96,hr⟩:=bN hr G55_eq;refine go ?_;refine lp 4 (fun (⟨p13,p14⟩ : Int×(List Int))=>⟨(und 1++([.one (.v (.bool a1)),.ptr 2 0 0 0 4]++(und 2++([.one (.ms 900005 0 0 (p14.length) 1)]++(und 18++([.one (.slice .no (List.map eapi_Input a0.2.1)),.one (.v (.int .i64 (a0.2.1.length : Int))),.one (.v (.int .i64 p13))]++(und 62)))))) : List PV),([(2,⟨0,4,[[.v (.int .u32 a0.1),.slice .no (List.map eapi_Input a0.2.1),.slice .no (List.map eapi_Output a0.2.2.1),.v (.int .u32 a0.2.2.2)]],false,false⟩),(900005,⟨0,1,intsR .u8 p14,false,true⟩)] : Boxes)⟩) hr ?_;rintro ⟨p13,p14⟩ x104r hr104
 simp only [Lref09_encode_s1] at hr104;unfold b22_1;refine nst ?_;refine go ?_;by_cases c105 : p13 < (a0.2.1.length : Int)
 ·have c105N:=nrm c105
  replace hr104:=ifP hr104
  refine go ?_;obtain ⟨_,⟨_,_,_⟩,hr104⟩:=bI hr104;refine go ?_;obtain ⟨y107,ehy107,hr104⟩:=bN hr104 G56_eq;obtain ⟨_,hr104⟩:=bC hr104;have n1_u108_0 : p14.length + y107.length≤140737488355328:=by omega
  have n2_u108_0 : p14.length + y107.length≤9223372036854775807:=by omega
  obtain ⟨_,ehy109,hr104⟩:=bN hr104 G54_eq;refine go ?_;exact bk hr104
 ·have c105N:=nrm c105
  replace hr104:=ifN hr104
  refine go ?_;obtain ⟨r110,q110,rfl⟩:=ms hr104;refine go ?_;rintro rfl
  refine go ?_;unfold Lref09_encode_k1 at q110;obtain ⟨_,ehy111,q110⟩:=bN q110 G55_eq;refine go ?_;refine lp 10 (fun (⟨p28,p29⟩ : Int×(List Int))=>⟨(und 1++([.one (.v (.bool a1)),.ptr 2 0 0 0 4]++(und 2++([.one (.ms 44 0 0 (p29.length) 1)]++(und 40++([.one (.slice .no (List.map eapi_Output a0.2.2.1)),.one (.v (.int .i64 (a0.2.2.1.length : Int))),.one (.v (.int .i64 p28))]++(und 40)))))) : List PV),([(2,⟨0,4,[[.v (.int .u32 a0.1),.slice .no (List.map eapi_Input a0.2.1),.slice .no (List.map eapi_Output a0.2.2.1),.v (.int .u32 a0.2.2.2)]],false,false⟩),(44,⟨0,1,intsR .u8 p29,false,true⟩)] : Boxes)⟩) q110 ?_;rintro ⟨p28,p29⟩ x118r hr118
  simp only [Lref09_encode_s2] at hr118;unfold b22_2;refine nst ?_;refine go ?_;by_cases c119 : p28 < (a0.2.2.1.length : Int)
  ·have c119N:=nrm c119
   replace hr118:=ifP hr118
   refine go ?_;obtain ⟨_,⟨_,_,_⟩,hr118⟩:=bI hr118;refine go ?_;obtain ⟨y121,ehy121,hr118⟩:=bN hr118 G57_eq;obtain ⟨_,hr118⟩:=bC hr118;have n1_u122_0 : p29.length + y121.length≤140737488355328:=by omega
   have n2_u122_0 : p29.length + y121.length≤9223372036854775807:=by omega
   refine go ?_;exact bk hr118
  ·have c119N:=nrm c119
   replace hr118:=ifN hr118
   refine go ?_;obtain ⟨r123,q123,rfl⟩:=ms hr118;refine go ?_;rintro rfl
   refine go ?_;unfold Lref09_encode_k2 at q123;obtain ⟨_,ehy124,q123⟩:=bN q123 G54_eq;refine go ?_;refine ee_J q123 (.exit 4) (fun (s : (List Int))=>match s with | p61=>(⟨(und 5++([.one (.ms 900005 0 0 (p61.length) 1)]++(und 83)) : List PV),([(900005,⟨0,1,intsR .u8 p61,false,true⟩)] : Boxes)⟩ : ASt)) (fun (s : (List Int))=>match s with | p61=>Lref09_encode_k3 p61) ?_ ?_
   ·rintro p61 hk142
    change Lref09_encode_k3 p61 = _ at hk142
    refine go ?_;refine nst ?_;unfold Lref09_encode_k3 at hk142;refine ee_seq_regJ rfl (kq:=⟨[5],[900005],[]⟩) rfl (by simp [joinSt, *]; rfl) (by simp [*] <;> rfl) ?_;refine go ?_;exact fin hk142
   ·intro J142
    simp only [pq,reduceCtorEq] at J142;refine lp 16 (fun (⟨p60,p61⟩ : Int×(List Int))=>⟨(und 1++([.one (.v (.bool a1))]++(und 3++([.one (.ms 900005 0 0 (p61.length) 1)]++(und 56++([.one (.slice .no (List.map eapi_Input a0.2.1)),.one (.v (.int .i64 (a0.2.1.length : Int))),.one (.v (.int .i64 p60))]++(und 24)))))) : List PV),([(900005,⟨0,1,intsR .u8 p61,false,true⟩)] : Boxes)⟩) q123 ?_;rintro ⟨p60,p61⟩ x143r hr143
    simp only [Lref09_encode_s3] at hr143;unfold b22_3;refine nst ?_;refine go ?_;by_cases c144 : p60 < (a0.2.1.length : Int)
    ·have c144N:=nrm c144
     replace hr143:=ifP hr143
     refine go ?_;obtain ⟨x145,⟨_,_,_⟩,hr143⟩:=bI hr143;refine go ?_;by_cases c146 : a1 = true
     ·replace hr143:=ifN hr143
      refine go ?_;obtain ⟨_,ehy147,hr143⟩:=bN hr143 G55_eq;refine go ?_;refine lp 21 (fun (⟨p82,p83⟩ : Int×(List Int))=>⟨(und 1++([.one (.v (.bool a1))]++(und 3++([.one (.ms 900005 0 0 (p83.length) 1)]++(und 56++([.one (.slice .no (List.map eapi_Input a0.2.1)),.one (.v (.int .i64 (a0.2.1.length : Int))),.one (.v (.int .i64 p60))]++(und 12++([.one (.slice .no (List.map eS_I_u8 x145.2.2)),.one (.v (.int .i64 (x145.2.2.length : Int))),.one (.v (.int .i64 p82))]++(und 9)))))))) : List PV),([(900005,⟨0,1,intsR .u8 p83,false,true⟩)] : Boxes)⟩) hr143 ?_;rintro ⟨p82,p83⟩ x153r hr153
      simp only [Lref09_encode_s4] at hr153;unfold b22_4;refine nst ?_;refine go ?_;by_cases c154 : p82 < (x145.2.2.length : Int)
      ·have c154N:=nrm c154
       replace hr153:=ifP hr153
       refine go ?_;obtain ⟨_,⟨_,_,_⟩,hr153⟩:=bI hr153;refine go ?_;obtain ⟨_,ehy156,hr153⟩:=bN hr153 G58_eq;refine go ?_;exact bk hr153
      ·have c154N:=nrm c154
       replace hr153:=ifN hr153
       refine go ?_;obtain ⟨r157,q157,rfl⟩:=ms hr153;refine go ?_;rintro rfl
       refine go ?_;unfold Lref09_encode_k4 at q157;refine go ?_;exact bk q157
     ·replace hr143:=ifP hr143
      refine go ?_;obtain ⟨r158,q158,rfl⟩:=ms hr143;refine go ?_;rintro rfl
      refine go ?_;exact jn 1000026 (J142 p61 q158)
    ·have c144N:=nrm c144
     replace hr143:=ifN hr143
     refine go ?_;obtain ⟨r159,q159,rfl⟩:=ms hr143;refine go ?_;rintro rfl
     refine go ?_;exact jn 1000026 (J142 p61 q159)
theorem w21 : Walk tt G [(22,K22.G)] (fun _=>[]) Tryd.f21 K21:=by
 refine .of [(4,⟨[1,20,21,22],[1],[]⟩),(10,⟨[1,37,38,39],[1],[]⟩),(15,⟨[1,37,38,39,48,49,50],[1],[]⟩)] false body21 Tryd.ntmps21 fun T hO hT a0 x hr=>⟨by simp,?_⟩
 simp only [tabAll] at hT; simp only at hr ⊢; unfold c21;unfold Lref09_Fits at hr;refine go ?_;by_cases c35 : 64 < (a0.2.1.length : Int)
 ·have c35N:=nrm c35
  refine go ?_
  replace hr:=ifP hr
  refine go ?_;exact fin hr
 ·have c35N:=nrm c35
  refine go ?_;by_cases c36 : 64 < (a0.2.2.1.length : Int)
  ·have c36N:=nrm c36
   replace hr:=ifP hr
   refine go ?_;exact fin hr
  ·have c36N:=nrm c36
   replace hr:=ifN hr
   refine go ?_;refine lp 4 (fun (p4 : Int)=>⟨(und 1++([.ptr 1 0 0 0 4]++(und 18++([.one (.slice .no (List.map eapi_Output a0.2.2.1)),.one (.v (.int .i64 (a0.2.2.1.length : Int))),.one (.v (.int .i64 p4))]++(und 40)))) : List PV),([(1,⟨0,4,[[.v (.int .u32 a0.1),.slice .no (List.map eapi_Input a0.2.1),.slice .no (List.map eapi_Output a0.2.2.1),.v (.int .u32 a0.2.2.2)]],false,false⟩)] : Boxes)⟩) hr ?_;rintro p4 x43r hr43
   simp only [Lref09_Fits_s1] at hr43;unfold b21_1;refine nst ?_;refine go ?_;by_cases c44 : p4 < (a0.2.2.1.length : Int)
   ·have c44N:=nrm c44
    replace hr43:=ifP hr43
    refine go ?_;obtain ⟨x45,⟨_,_,_⟩,hr43⟩:=bI hr43;refine go ?_;by_cases c46 : x45.1 < 0
    ·refine go ?_
     replace hr43:=ifP hr43
     refine go ?_;exact fin hr43
    ·refine go ?_
     by_cases c47 : 520 < (x45.2.length : Int)
     ·have c47N:=nrm c47
      replace hr43:=ifP hr43
      refine go ?_;exact fin hr43
     ·have c47N:=nrm c47
      replace hr43:=ifN hr43
      refine go ?_;exact bk hr43
   ·have c44N:=nrm c44
    replace hr43:=ifN hr43
    refine go ?_;obtain ⟨r48,q48,rfl⟩:=ms hr43;refine go ?_;rintro rfl
    refine go ?_;unfold Lref09_Fits_k1 at q48;refine go ?_;refine lp 10 (fun (p19 : Int)=>⟨(und 1++([.ptr 1 0 0 0 4]++(und 35++([.one (.slice .no (List.map eapi_Input a0.2.1)),.one (.v (.int .i64 (a0.2.1.length : Int))),.one (.v (.int .i64 p19))]++(und 23)))) : List PV),([(1,⟨0,4,[[.v (.int .u32 a0.1),.slice .no (List.map eapi_Input a0.2.1),.slice .no (List.map eapi_Output a0.2.2.1),.v (.int .u32 a0.2.2.2)]],false,false⟩)] : Boxes)⟩) q48 ?_;rintro p19 x64r hr64
    simp only [Lref09_Fits_s2] at hr64;unfold b21_2;refine nst ?_;refine go ?_;by_cases c65 : p19 < (a0.2.1.length : Int)
    ·have c65N:=nrm c65
     replace hr64:=ifP hr64
     refine go ?_;obtain ⟨x66,⟨_,_,_⟩,hr64⟩:=bI hr64;refine go ?_;by_cases c67 : 32 < (x66.2.2.length : Int)
     ·have c67N:=nrm c67
      replace hr64:=ifP hr64
      refine go ?_;exact fin hr64
     ·have c67N:=nrm c67
      replace hr64:=ifN hr64
      refine go ?_;refine lp 15 (fun (p31 : Int)=>⟨(und 1++([.ptr 1 0 0 0 4]++(und 35++([.one (.slice .no (List.map eapi_Input a0.2.1)),.one (.v (.int .i64 (a0.2.1.length : Int))),.one (.v (.int .i64 p19))]++(und 8++([.one (.slice .no (List.map eS_I_u8 x66.2.2)),.one (.v (.int .i64 (x66.2.2.length : Int))),.one (.v (.int .i64 p31))]++(und 12)))))) : List PV),([(1,⟨0,4,[[.v (.int .u32 a0.1),.slice .no (List.map eapi_Input a0.2.1),.slice .no (List.map eapi_Output a0.2.2.1),.v (.int .u32 a0.2.2.2)]],false,false⟩)] : Boxes)⟩) hr64 ?_;rintro p31 x73r hr73
      simp only [Lref09_Fits_s3] at hr73;unfold b21_3;refine nst ?_;refine go ?_;by_cases c74 : p31 < (x66.2.2.length : Int)
      ·have c74N:=nrm c74
       replace hr73:=ifP hr73
       refine go ?_;obtain ⟨x75,⟨_,_,_⟩,hr73⟩:=bI hr73;refine go ?_;by_cases c76 : 520 < (x75.length : Int)
       ·have c76N:=nrm c76
        replace hr73:=ifP hr73
        refine go ?_;exact fin hr73
       ·have c76N:=nrm c76
        replace hr73:=ifN hr73
        refine go ?_;exact bk hr73
      ·have c74N:=nrm c74
       replace hr73:=ifN hr73
       refine go ?_;obtain ⟨r77,q77,rfl⟩:=ms hr73;refine go ?_;rintro rfl
       refine go ?_;unfold Lref09_Fits_k3 at q77;refine go ?_;exact bk q77
    ·have c65N:=nrm c65
     replace hr64:=ifN hr64
     refine go ?_;obtain ⟨r78,q78,rfl⟩:=ms hr64;refine go ?_;rintro rfl
     refine go ?_;unfold Lref09_Fits_k2 at q78;obtain ⟨_,ehy79,q78⟩:=bN q78 G22_eq;refine go ?_;exact fin q78
theorem w10 : Walk tt G [(21,K21.G),(22,K22.G)] (fun _=>[]) Tryd.f10 K10:=by
 refine .of [] false body10 Tryd.ntmps10 fun T hO hT a0 x hr=>⟨by simp,?_⟩
 simp only [tabAll] at hT; simp only at hr ⊢; unfold c10;unfold Lref09_Weight at hr;refine go ?_;obtain ⟨y4,ehy4,hr⟩:=bN hr G21_eq;refine go ?_;by_cases c5 : y4 = true
 ·replace hr:=ifN hr
  refine go ?_;obtain ⟨_,ehy6,hr⟩:=bN hr G22_eq;obtain ⟨_,ehy7,hr⟩:=bN hr G22_eq;refine go ?_;exact fin hr
 ·replace hr:=ifP hr
  refine go ?_;exact fin hr
theorem w78 : Walk tt G [] (fun _=>[]) Tryd.f78 K78:=by
 refine .of [(3,⟨[4,7,8,9],[],[]⟩)] false body78 Tryd.ntmps78 fun T hO hT a0 x hr=>⟨by simp,?_⟩
 simp only [tabAll] at hT; simp only at hr ⊢; unfold c78;unfold Lspend_sum at hr;refine go ?_;refine lp 3 (fun (⟨p5,p6⟩ : Int×Int)=>⟨(und 4++([.one (.v (.int .i64 p5))]++(und 2++([.one (.slice .no (List.map eapi_Coin a0)),.one (.v (.int .i64 (a0.length : Int))),.one (.v (.int .i64 p6))]++(und 22)))) : List PV),([] : Boxes)⟩) hr ?_;rintro ⟨p5,p6⟩ x15r hr15
 simp only [Lspend_sum_s1] at hr15;unfold b78_1;refine nst ?_;refine go ?_;by_cases c16 : p6 < (a0.length : Int)
 ·have c16N:=nrm c16
  replace hr15:=ifP hr15
  refine go ?_;obtain ⟨x17,⟨_,_,_⟩,hr15⟩:=bI hr15;refine go ?_;by_cases c18 : x17.2.1.1 < 0
  ·refine go ?_
   replace hr15:=ifP hr15
   refine go ?_;exact fin hr15
  ·refine go ?_
   by_cases c19 : IntKind.i64.wrap (2100000000000000 - p5) < x17.2.1.1
   ·replace hr15:=ifP hr15
    refine go ?_;exact fin hr15
   ·replace hr15:=ifN hr15
    refine go ?_;exact bk hr15
 ·have c16N:=nrm c16
  replace hr15:=ifN hr15
  refine go ?_;obtain ⟨r20,q20,rfl⟩:=ms hr15;refine go ?_;rintro rfl
  refine go ?_;unfold Lspend_sum_k1 at q20;refine go ?_;exact fin q20
theorem w59 : Walk tt G [(42,K42.G),(78,K78.G)] (fun _=>[]) Tryd.f59 K59:=by
 refine .of [(7,⟨[1,2,24,25,26],[2],[]⟩),(16,⟨[9,49,50,51],[],[]⟩)] false body59 Tryd.ntmps59 fun T hO hT ⟨a0,a1⟩ x hr=>⟨by simp,?_⟩
 simp only [tabAll] at hT; simp only at hr ⊢; unfold c59;unfold Lspend_Fee at hr;refine go ?_;obtain ⟨y21,ehy21,hr⟩:=bN hr G42_eq;refine go ?_;rcases eqT (y21 = 0) with c22 | c22
 ·replace hr:=ifN hr
  refine go ?_;rcases eqT ((a1.length : Int) = (a0.2.1.length : Int)) with c23 | c23
  ·have c23N:=nrm c23
   replace hr:=ifN hr
   refine go ?_;refine lp 7 (fun (p7 : Int)=>⟨(und 1++([.one (.slice .no (List.map eapi_Coin a1)),.ptr 2 0 0 0 4]++(und 21++([.one (.slice .no (List.map eapi_Coin a1)),.one (.v (.int .i64 (a1.length : Int))),.one (.v (.int .i64 p7))]++(und 36)))) : List PV),([(2,⟨0,4,[[.v (.int .u32 a0.1),.slice .no (List.map eapi_Input a0.2.1),.slice .no (List.map eapi_Output a0.2.2.1),.v (.int .u32 a0.2.2.2)]],false,false⟩)] : Boxes)⟩) hr ?_;rintro p7 x31r hr31
   simp only [Lspend_Fee_s1] at hr31;unfold b59_1;refine nst ?_;refine go ?_;by_cases c32 : p7 < (a1.length : Int)
   ·have c32N:=nrm c32
    replace hr31:=ifP hr31
    refine go ?_;obtain ⟨x33,⟨_,_,_⟩,hr31⟩:=bI hr31;refine go ?_;obtain ⟨x34,⟨_,_,_⟩,hr31⟩:=bI hr31;refine go ?_;rcases eqT (x33.1.1 = x34.1.1) with c35 | c35
    ·rcases eqT (x33.1.2 = x34.1.2) with c36 | c36
     ·replace hr31:=ifN hr31
      refine go ?_;exact bk hr31
     ·replace hr31:=ifP hr31
      refine go ?_;exact fin hr31
    ·replace hr31:=ifP hr31
     refine go ?_;exact fin hr31
   ·have c32N:=nrm c32
    replace hr31:=ifN hr31
    refine go ?_;obtain ⟨r37,q37,rfl⟩:=ms hr31;refine go ?_;rintro rfl
    refine go ?_;unfold Lspend_Fee_k1 at q37;obtain ⟨y38,ehy38,q37⟩:=bN q37 G78_eq;refine go ?_;by_cases c39 : y38.2 = true
    ·replace q37:=ifN q37
     refine go ?_;refine lp 16 (fun (⟨p15,p16⟩ : Int×Int)=>⟨(und 9++([.one (.v (.int .i64 p15))]++(und 39++([.one (.slice .no (List.map eapi_Output a0.2.2.1)),.one (.v (.int .i64 (a0.2.2.1.length : Int))),.one (.v (.int .i64 p16))]++(und 11)))) : List PV),([] : Boxes)⟩) q37 ?_;rintro ⟨p15,p16⟩ x44r hr44
     simp only [Lspend_Fee_s2] at hr44;unfold b59_2;refine nst ?_;refine go ?_;by_cases c45 : p16 < (a0.2.2.1.length : Int)
     ·have c45N:=nrm c45
      replace hr44:=ifP hr44
      refine go ?_;obtain ⟨_,⟨_,_,_⟩,hr44⟩:=bI hr44;refine go ?_;exact bk hr44
     ·have c45N:=nrm c45
      replace hr44:=ifN hr44
      refine go ?_;obtain ⟨r47,q47,rfl⟩:=ms hr44;refine go ?_;rintro rfl
      refine go ?_;unfold Lspend_Fee_k2 at q47;refine go ?_;by_cases c48 : p15 < 0
      ·replace q47:=ifP q47
       refine go ?_;exact fin q47
      ·replace q47:=ifN q47
       refine go ?_;exact fin q47
    ·replace q37:=ifP q37
     refine go ?_;exact fin q37
  ·have c23N:=nrm c23
   replace hr:=ifP hr
   refine go ?_;exact fin hr
 ·replace hr:=ifP hr
  refine go ?_;exact fin hr
theorem w23 : Walk tt G [(42,K42.G),(48,K48.G),(59,K59.G)] (fun _=>[]) Tryd.f23 K23:=by
 refine .of [(4,⟨[1,18,19,20],[1],[]⟩)] false body23 Tryd.ntmps23 fun T hO hT a0 x hr=>⟨by simp,?_⟩
 simp only [tabAll] at hT; simp only at hr ⊢; unfold c23;unfold Lbuild_Valid at hr;refine go ?_;obtain ⟨y11,ehy11,hr⟩:=bN hr G42_eq;rcases eqT (y11 = 0) with c12 | c12
 ·replace hr:=ifNb hr
  obtain ⟨_,hz13,hr⟩:=bs hr;obtain ⟨y14,ehy14,hz13⟩:=bN hz13 G48_eq;obtain rfl:=Option.some.inj hz13;refine go ?_;by_cases c15 : y14 = true
  ·replace hr:=ifP hr
   refine go ?_;exact fin hr
  ·replace hr:=ifN hr
   refine go ?_;refine lp 4 (fun (p7 : Int)=>⟨(und 1++([.ptr 1 0 0 0 7]++(und 16++([.one (.slice .no (List.map eapi_Input a0.1.2.1)),.one (.v (.int .i64 (a0.1.2.1.length : Int))),.one (.v (.int .i64 p7))]++(und 36)))) : List PV),([(1,⟨0,7,[[.v (.int .u32 a0.1.1),.slice .no (List.map eapi_Input a0.1.2.1),.slice .no (List.map eapi_Output a0.1.2.2.1),.v (.int .u32 a0.1.2.2.2),.slice .no (List.map eapi_Coin a0.2.1),.v (.int .i64 a0.2.2.1),.v (.int .i64 a0.2.2.2)]],false,false⟩)] : Boxes)⟩) hr ?_;rintro p7 x21r hr21
   simp only [Lbuild_Valid_s1] at hr21;unfold b23_1;refine nst ?_;refine go ?_;by_cases c22 : p7 < (a0.1.2.1.length : Int)
   ·have c22N:=nrm c22
    replace hr21:=ifP hr21
    refine go ?_;obtain ⟨x23,⟨_,_,_⟩,hr21⟩:=bI hr21;refine go ?_;by_cases c24 : 0 < (x23.2.2.length : Int)
    ·have c24N:=nrm c24
     replace hr21:=ifP hr21
     refine go ?_;exact fin hr21
    ·have c24N:=nrm c24
     have c24L : ¬ 0 < x23.2.2.length:=by omega
     replace hr21:=ifN hr21
     refine go ?_;exact bk hr21
   ·have c22N:=nrm c22
    replace hr21:=ifN hr21
    refine go ?_;obtain ⟨r25,q25,rfl⟩:=ms hr21;refine go ?_;rintro rfl
    refine go ?_;unfold Lbuild_Valid_k1 at q25;refine go ?_;by_cases c26 : a0.2.2.2 < (-1)
    ·refine go ?_
     replace q25:=ifP q25
     refine go ?_;exact fin q25
    ·refine go ?_
     by_cases c27 : (a0.1.2.2.1.length : Int)≤a0.2.2.2
     ·have c27N:=nrm c27
      replace q25:=ifP q25
      refine go ?_;exact fin q25
     ·have c27N:=nrm c27
      replace q25:=ifN q25
      refine go ?_;obtain ⟨y28,ehy28,q25⟩:=bN q25 G59_eq;refine go ?_;rcases eqT (y28.2 = 0) with c29 | c29
      ·refine go ?_
       exact fin q25
      ·refine go ?_
       exact fin q25
 ·replace hr:=ifPb hr
  obtain ⟨_,hz30,hr⟩:=bs hr;obtain rfl:=Option.some.inj hz30;refine go ?_
  replace hr:=ifP hr
  refine go ?_;exact fin hr
theorem cnil64 (c : Nat) (w : World) : Calls Tryd.prog 64 #[.slice none 0 c] w fun e w'=>e = .returned (.slice none 0 0)∧w' = w:=by
 have h1 : ∀ w,(binOp .eql 36 (.slice none 0 c) (.slice none 0 0)).run Tryd.prog w = .ok (.bool true) w:=fun w=>by
  have h : ∀ d : Nat,(Op.equalIn (d + 1) 36 (.slice none 0 c) (.slice none 0 0)).run Tryd.prog w = .ok true w:=fun d=>by
   simp [Op.equalIn,run_underlying Tryd.underlying36]
  have h' : (Op.equal 36 (.slice none 0 c) (.slice none 0 0)).run Tryd.prog w = .ok true w:=h 9999;simp [binOp,h']
 go_enter Tryd.func64,Tryd.ntmps64
 go_wp2
 go_ret
 exact ⟨rfl,rfl⟩
theorem csome64 (b : Addr) (c : Nat) (w : World) : Calls Tryd.prog 64 #[.slice (some b) 0 c] w fun e w'=>e = .returned (.slice (some ⟨w.heap.size,0,none⟩) 0 0)∧w' = w.alloc (.cells #[] 5):=by
 have h1 : ∀ w,(binOp .eql 36 (.slice (some b) 0 c) (.slice none 0 0)).run Tryd.prog w = .ok (.bool false) w:=fun w=>by
  have h : (Op.equal 36 (.slice (some b) 0 c) (.slice none 0 0)).run Tryd.prog w = .ok false w:=eqIn_slice 9999 Tryd.underlying36;simp [binOp,h]
 have h2 : ∀ w,(Instr.buildSlice 36 0 #[]).run Tryd.prog w = .ok (.slice (some ⟨w.heap.size,0,none⟩) 0 0) (w.alloc (.cells #[] 5)):=fun w=>by kernel_rfl
 have hi0 : (Tryd.prog.info? 5).isSome = true:=by kernel_rfl
 obtain ⟨i,hi⟩:=Option.isSome_iff_exists.1 hi0;have h3 : ∀ (w : World) (x : Option Addr) ty,(Builtin.append_ #[36,36] ty #[.slice x 0 0,.slice (some b) 0 c]).run Tryd.prog w = .ok (.slice x 0 0) w:=fun w x ty=>run_append_zero w 36 ty 5 i Tryd.underlying36 hi x (some b) 0 0 c (Nat.le_refl _)
 clear hi hi0
 go_enter Tryd.func64,Tryd.ntmps64
 go_wp2
 go_ret
 exact ⟨rfl,rfl⟩
def kp64 : Keep:=fun i=>⟨[],[],[]⟩
theorem w64 {T : Tab} (a0 : (List Int)) (hne : a0≠[]) (x : (List Int)) (hr : Lbytes_Clone a0 = some x) : ∃ kp fl n,execFn tt T G kp fl n Tryd.f64 [.one (.slice .no (intsR .u8 a0))] = some (.one (.own 1 (intsR .u8 a0)),[]):=by
 refine fnE (kp:=kp64) (w:=true) body64 (by simp) ?_;unfold c64;rw [Tryd.ntmps64];unfold Lbytes_Clone at hr;obtain ⟨_,u1,hr⟩:=bs hr;have u2:=chk_some u1;have n1 : a0.length≤140737488355328:=by omega
 have n2 : a0.length≤9223372036854775807:=by omega
 have ne : intsR .u8 a0≠[]:=fun h=>hne (by simpa [intsR] using h)
 refine ee_seq_reg rfl (by simp; rfl) ?_
 first
 | (refine ee_assoc ?_; refine ee_seq_reg rfl (by simp [hne,ne]; rfl) ?_)
 | refine ee_seq_reg rfl (by simp [hne,ne]; rfl) ?_
 refine ee_seq_condF (by simp [bV]) ?_;refine ee_seq_skip ?_;refine ee_seq_reg rfl (by simp [n1,n2]; rfl) ?_;refine ee_ret ?_;simp [FinQ]
theorem v64 : Impl Tryd.prog G 64 G64:=by
 refine clone_impl (e:=1) (t:=5) (N:=0) (rows:=fun l : (List Int)=>intsR .u8 l) Tryd.func64 (by kernel_rfl) (by kernel_rfl) G64 (fun ps r hF=>?_) rfl (fun l hl r hF=>?_) (fun x c w=>?_)
 ·obtain ⟨x,rfl,h⟩:=lift_inv hF
  obtain ⟨y,hy,rfl⟩:=Option.map_eq_some_iff.1 h;unfold Lbytes_Clone at hy;obtain ⟨_,u1,hy⟩:=bs hy;obtain rfl:=Option.some.inj hy;exact ⟨x,rfl,rfl⟩
 ·refine impl_of (T:=Av.tab []) mixed htt (Av.tab_ok trivial) Tryd.func64 body64 (by kernel_rfl) fun ps r' ho hF'=>?_
  split at hF'
  ·rename_i hps
   subst hps;injection hF' with hF';subst hF';obtain ⟨x,hx,h⟩:=lift_inv hF;obtain rfl:=E64i l x hx;obtain ⟨y,hy,rfl⟩:=Option.map_eq_some_iff.1 h;have hy' := hy;unfold Lbytes_Clone at hy';obtain ⟨_,u1,hy'⟩:=bs hy';obtain rfl:=Option.some.inj hy';exact w64 l hl _ hy
  ·cases hF'
 ·cases x with
  | none=>exact (cnil64 c w).mono fun e w' h=>⟨none,h.1,.inl h.2⟩
  | some b=>exact (csome64 b c w).mono fun e w' h=>⟨_,h.1,.inr h.2⟩
theorem cnil84 (c : Nat) (w : World) : Calls Tryd.prog 84 #[.slice none 0 c] w fun e w'=>e = .returned (.slice none 0 0)∧w' = w:=by
 have h1 : ∀ w,(binOp .eql 27 (.slice none 0 c) (.slice none 0 0)).run Tryd.prog w = .ok (.bool true) w:=fun w=>by
  have h : ∀ d : Nat,(Op.equalIn (d + 1) 27 (.slice none 0 c) (.slice none 0 0)).run Tryd.prog w = .ok true w:=fun d=>by
   simp [Op.equalIn,run_underlying Tryd.underlying27]
  have h' : (Op.equal 27 (.slice none 0 c) (.slice none 0 0)).run Tryd.prog w = .ok true w:=h 9999;simp [binOp,h']
 go_enter Tryd.func84,Tryd.ntmps84
 go_wp2
 go_ret
 exact ⟨rfl,rfl⟩
theorem csome84 (b : Addr) (c : Nat) (w : World) : Calls Tryd.prog 84 #[.slice (some b) 0 c] w fun e w'=>e = .returned (.slice (some ⟨w.heap.size,0,none⟩) 0 0)∧w' = w.alloc (.cells #[] 59):=by
 have h1 : ∀ w,(binOp .eql 27 (.slice (some b) 0 c) (.slice none 0 0)).run Tryd.prog w = .ok (.bool false) w:=fun w=>by
  have h : (Op.equal 27 (.slice (some b) 0 c) (.slice none 0 0)).run Tryd.prog w = .ok false w:=eqIn_slice 9999 Tryd.underlying27;simp [binOp,h]
 have h2 : ∀ w,(Instr.buildSlice 27 0 #[]).run Tryd.prog w = .ok (.slice (some ⟨w.heap.size,0,none⟩) 0 0) (w.alloc (.cells #[] 59)):=fun w=>by kernel_rfl
 have hi0 : (Tryd.prog.info? 59).isSome = true:=by kernel_rfl
 obtain ⟨i,hi⟩:=Option.isSome_iff_exists.1 hi0;have h3 : ∀ (w : World) (x : Option Addr) ty,(Builtin.append_ #[27,27] ty #[.slice x 0 0,.slice (some b) 0 c]).run Tryd.prog w = .ok (.slice x 0 0) w:=fun w x ty=>run_append_zero w 27 ty 59 i Tryd.underlying27 hi x (some b) 0 0 c (Nat.le_refl _)
 clear hi hi0
 go_enter Tryd.func84,Tryd.ntmps84
 go_wp2
 go_ret
 exact ⟨rfl,rfl⟩
def kp84 : Keep:=fun i=>⟨[],[],[]⟩
theorem w84 {T : Tab} (a0 : (List Tapi_Input)) (hne : a0≠[]) (x : (List Tapi_Input)) (hr : Lslices_Clone_of__api_Input_api_Input a0 = some x) : ∃ kp fl n,execFn tt T G kp fl n Tryd.f84 [.one (.slice .no (List.map eapi_Input a0))] = some (.one (.own 35 (List.map eapi_Input a0)),[]):=by
 refine fnE (kp:=kp84) (w:=true) body84 (by simp) ?_;unfold c84;rw [Tryd.ntmps84];unfold Lslices_Clone_of__api_Input_api_Input at hr;obtain ⟨_,u1,hr⟩:=bs hr;have u2:=chk_some u1;have n1 : a0.length * 64≤140737488355328:=by omega
 have n2 : a0.length≤9223372036854775807:=by omega
 have ne : List.map eapi_Input a0≠[]:=fun h=>hne (by simpa [intsR] using h)
 refine ee_seq_reg rfl (by simp; rfl) ?_
 first
 | (refine ee_assoc ?_; refine ee_seq_reg rfl (by simp [hne,ne]; rfl) ?_)
 | refine ee_seq_reg rfl (by simp [hne,ne]; rfl) ?_
 refine ee_seq_condF (by simp [bV]) ?_;refine ee_seq_skip ?_;refine ee_seq_reg rfl (by simp [n1,n2]; rfl) ?_;refine ee_ret ?_;simp [FinQ]
theorem v84 : Impl Tryd.prog G 84 G84:=by
 refine clone_impl (e:=35) (t:=59) (N:=0) (rows:=fun l : (List Tapi_Input)=>List.map eapi_Input l) Tryd.func84 (by kernel_rfl) (by kernel_rfl) G84 (fun ps r hF=>?_) rfl (fun l hl r hF=>?_) (fun x c w=>?_)
 ·obtain ⟨x,rfl,h⟩:=lift_inv hF
  obtain ⟨y,hy,rfl⟩:=Option.map_eq_some_iff.1 h;unfold Lslices_Clone_of__api_Input_api_Input at hy;obtain ⟨_,u1,hy⟩:=bs hy;obtain rfl:=Option.some.inj hy;exact ⟨x,rfl,rfl⟩
 ·refine impl_of (T:=Av.tab []) mixed htt (Av.tab_ok trivial) Tryd.func84 body84 (by kernel_rfl) fun ps r' ho hF'=>?_
  split at hF'
  ·rename_i hps
   subst hps;injection hF' with hF';subst hF';obtain ⟨x,hx,h⟩:=lift_inv hF;obtain rfl:=E84i l x hx;obtain ⟨y,hy,rfl⟩:=Option.map_eq_some_iff.1 h;have hy' := hy;unfold Lslices_Clone_of__api_Input_api_Input at hy';obtain ⟨_,u1,hy'⟩:=bs hy';obtain rfl:=Option.some.inj hy';exact w84 l hl _ hy
  ·cases hF'
 ·cases x with
  | none=>exact (cnil84 c w).mono fun e w' h=>⟨none,h.1,.inl h.2⟩
  | some b=>exact (csome84 b c w).mono fun e w' h=>⟨_,h.1,.inr h.2⟩
theorem cnil85 (c : Nat) (w : World) : Calls Tryd.prog 85 #[.slice none 0 c] w fun e w'=>e = .returned (.slice none 0 0)∧w' = w:=by
 have h1 : ∀ w,(binOp .eql 28 (.slice none 0 c) (.slice none 0 0)).run Tryd.prog w = .ok (.bool true) w:=fun w=>by
  have h : ∀ d : Nat,(Op.equalIn (d + 1) 28 (.slice none 0 c) (.slice none 0 0)).run Tryd.prog w = .ok true w:=fun d=>by
   simp [Op.equalIn,run_underlying Tryd.underlying28]
  have h' : (Op.equal 28 (.slice none 0 c) (.slice none 0 0)).run Tryd.prog w = .ok true w:=h 9999;simp [binOp,h']
 go_enter Tryd.func85,Tryd.ntmps85
 go_wp2
 go_ret
 exact ⟨rfl,rfl⟩
theorem csome85 (b : Addr) (c : Nat) (w : World) : Calls Tryd.prog 85 #[.slice (some b) 0 c] w fun e w'=>e = .returned (.slice (some ⟨w.heap.size,0,none⟩) 0 0)∧w' = w.alloc (.cells #[] 51):=by
 have h1 : ∀ w,(binOp .eql 28 (.slice (some b) 0 c) (.slice none 0 0)).run Tryd.prog w = .ok (.bool false) w:=fun w=>by
  have h : (Op.equal 28 (.slice (some b) 0 c) (.slice none 0 0)).run Tryd.prog w = .ok false w:=eqIn_slice 9999 Tryd.underlying28;simp [binOp,h]
 have h2 : ∀ w,(Instr.buildSlice 28 0 #[]).run Tryd.prog w = .ok (.slice (some ⟨w.heap.size,0,none⟩) 0 0) (w.alloc (.cells #[] 51)):=fun w=>by kernel_rfl
 have hi0 : (Tryd.prog.info? 51).isSome = true:=by kernel_rfl
 obtain ⟨i,hi⟩:=Option.isSome_iff_exists.1 hi0;have h3 : ∀ (w : World) (x : Option Addr) ty,(Builtin.append_ #[28,28] ty #[.slice x 0 0,.slice (some b) 0 c]).run Tryd.prog w = .ok (.slice x 0 0) w:=fun w x ty=>run_append_zero w 28 ty 51 i Tryd.underlying28 hi x (some b) 0 0 c (Nat.le_refl _)
 clear hi hi0
 go_enter Tryd.func85,Tryd.ntmps85
 go_wp2
 go_ret
 exact ⟨rfl,rfl⟩
def kp85 : Keep:=fun i=>⟨[],[],[]⟩
theorem w85 {T : Tab} (a0 : (List Tapi_Output)) (hne : a0≠[]) (x : (List Tapi_Output)) (hr : Lslices_Clone_of__api_Output_api_Output a0 = some x) : ∃ kp fl n,execFn tt T G kp fl n Tryd.f85 [.one (.slice .no (List.map eapi_Output a0))] = some (.one (.own 2 (List.map eapi_Output a0)),[]):=by
 refine fnE (kp:=kp85) (w:=true) body85 (by simp) ?_;unfold c85;rw [Tryd.ntmps85];unfold Lslices_Clone_of__api_Output_api_Output at hr;obtain ⟨_,u1,hr⟩:=bs hr;have u2:=chk_some u1;have n1 : a0.length * 32≤140737488355328:=by omega
 have n2 : a0.length≤9223372036854775807:=by omega
 have ne : List.map eapi_Output a0≠[]:=fun h=>hne (by simpa [intsR] using h)
 refine ee_seq_reg rfl (by simp; rfl) ?_
 first
 | (refine ee_assoc ?_; refine ee_seq_reg rfl (by simp [hne,ne]; rfl) ?_)
 | refine ee_seq_reg rfl (by simp [hne,ne]; rfl) ?_
 refine ee_seq_condF (by simp [bV]) ?_;refine ee_seq_skip ?_;refine ee_seq_reg rfl (by simp [n1,n2]; rfl) ?_;refine ee_ret ?_;simp [FinQ]
theorem v85 : Impl Tryd.prog G 85 G85:=by
 refine clone_impl (e:=2) (t:=51) (N:=0) (rows:=fun l : (List Tapi_Output)=>List.map eapi_Output l) Tryd.func85 (by kernel_rfl) (by kernel_rfl) G85 (fun ps r hF=>?_) rfl (fun l hl r hF=>?_) (fun x c w=>?_)
 ·obtain ⟨x,rfl,h⟩:=lift_inv hF
  obtain ⟨y,hy,rfl⟩:=Option.map_eq_some_iff.1 h;unfold Lslices_Clone_of__api_Output_api_Output at hy;obtain ⟨_,u1,hy⟩:=bs hy;obtain rfl:=Option.some.inj hy;exact ⟨x,rfl,rfl⟩
 ·refine impl_of (T:=Av.tab []) mixed htt (Av.tab_ok trivial) Tryd.func85 body85 (by kernel_rfl) fun ps r' ho hF'=>?_
  split at hF'
  ·rename_i hps
   subst hps;injection hF' with hF';subst hF';obtain ⟨x,hx,h⟩:=lift_inv hF;obtain rfl:=E85i l x hx;obtain ⟨y,hy,rfl⟩:=Option.map_eq_some_iff.1 h;have hy' := hy;unfold Lslices_Clone_of__api_Output_api_Output at hy';obtain ⟨_,u1,hy'⟩:=bs hy';obtain rfl:=Option.some.inj hy';exact w85 l hl _ hy
  ·cases hF'
 ·cases x with
  | none=>exact (cnil85 c w).mono fun e w' h=>⟨none,h.1,.inl h.2⟩
  | some b=>exact (csome85 b c w).mono fun e w' h=>⟨_,h.1,.inr h.2⟩
theorem cnil93 (c : Nat) (w : World) : Calls Tryd.prog 93 #[.slice none 0 c] w fun e w'=>e = .returned (.slice none 0 0)∧w' = w:=by
 have h1 : ∀ w,(binOp .eql 35 (.slice none 0 c) (.slice none 0 0)).run Tryd.prog w = .ok (.bool true) w:=fun w=>by
  have h : ∀ d : Nat,(Op.equalIn (d + 1) 35 (.slice none 0 c) (.slice none 0 0)).run Tryd.prog w = .ok true w:=fun d=>by
   simp [Op.equalIn,run_underlying Tryd.underlying35]
  have h' : (Op.equal 35 (.slice none 0 c) (.slice none 0 0)).run Tryd.prog w = .ok true w:=h 9999;simp [binOp,h']
 go_enter Tryd.func93,Tryd.ntmps93
 go_wp2
 go_ret
 exact ⟨rfl,rfl⟩
theorem csome93 (b : Addr) (c : Nat) (w : World) : Calls Tryd.prog 93 #[.slice (some b) 0 c] w fun e w'=>e = .returned (.slice (some ⟨w.heap.size,0,none⟩) 0 0)∧w' = w.alloc (.cells #[] 36):=by
 have h1 : ∀ w,(binOp .eql 35 (.slice (some b) 0 c) (.slice none 0 0)).run Tryd.prog w = .ok (.bool false) w:=fun w=>by
  have h : (Op.equal 35 (.slice (some b) 0 c) (.slice none 0 0)).run Tryd.prog w = .ok false w:=eqIn_slice 9999 Tryd.underlying35;simp [binOp,h]
 have h2 : ∀ w,(Instr.buildSlice 35 0 #[]).run Tryd.prog w = .ok (.slice (some ⟨w.heap.size,0,none⟩) 0 0) (w.alloc (.cells #[] 36)):=fun w=>by kernel_rfl
 have hi0 : (Tryd.prog.info? 36).isSome = true:=by kernel_rfl
 obtain ⟨i,hi⟩:=Option.isSome_iff_exists.1 hi0;have h3 : ∀ (w : World) (x : Option Addr) ty,(Builtin.append_ #[35,35] ty #[.slice x 0 0,.slice (some b) 0 c]).run Tryd.prog w = .ok (.slice x 0 0) w:=fun w x ty=>run_append_zero w 35 ty 36 i Tryd.underlying35 hi x (some b) 0 0 c (Nat.le_refl _)
 clear hi hi0
 go_enter Tryd.func93,Tryd.ntmps93
 go_wp2
 go_ret
 exact ⟨rfl,rfl⟩
def kp93 : Keep:=fun i=>⟨[],[],[]⟩
theorem w93 {T : Tab} (a0 : (List (List Int))) (hne : a0≠[]) (x : (List (List Int))) (hr : Lslices_Clone_of__byte_byte a0 = some x) : ∃ kp fl n,execFn tt T G kp fl n Tryd.f93 [.one (.slice .no (List.map eS_I_u8 a0))] = some (.one (.own 1 (List.map eS_I_u8 a0)),[]):=by
 refine fnE (kp:=kp93) (w:=true) body93 (by simp) ?_;unfold c93;rw [Tryd.ntmps93];unfold Lslices_Clone_of__byte_byte at hr;obtain ⟨_,u1,hr⟩:=bs hr;have u2:=chk_some u1;have n1 : a0.length * 24≤140737488355328:=by omega
 have n2 : a0.length≤9223372036854775807:=by omega
 have ne : List.map eS_I_u8 a0≠[]:=fun h=>hne (by simpa [intsR] using h)
 refine ee_seq_reg rfl (by simp; rfl) ?_
 first
 | (refine ee_assoc ?_; refine ee_seq_reg rfl (by simp [hne,ne]; rfl) ?_)
 | refine ee_seq_reg rfl (by simp [hne,ne]; rfl) ?_
 refine ee_seq_condF (by simp [bV]) ?_;refine ee_seq_skip ?_;refine ee_seq_reg rfl (by simp [n1,n2]; rfl) ?_;refine ee_ret ?_;simp [FinQ]
theorem v93 : Impl Tryd.prog G 93 G93:=by
 refine clone_impl (e:=1) (t:=36) (N:=0) (rows:=fun l : (List (List Int))=>List.map eS_I_u8 l) Tryd.func93 (by kernel_rfl) (by kernel_rfl) G93 (fun ps r hF=>?_) rfl (fun l hl r hF=>?_) (fun x c w=>?_)
 ·obtain ⟨x,rfl,h⟩:=lift_inv hF
  obtain ⟨y,hy,rfl⟩:=Option.map_eq_some_iff.1 h;unfold Lslices_Clone_of__byte_byte at hy;obtain ⟨_,u1,hy⟩:=bs hy;obtain rfl:=Option.some.inj hy;exact ⟨x,rfl,rfl⟩
 ·refine impl_of (T:=Av.tab []) mixed htt (Av.tab_ok trivial) Tryd.func93 body93 (by kernel_rfl) fun ps r' ho hF'=>?_
  split at hF'
  ·rename_i hps
   subst hps;injection hF' with hF';subst hF';obtain ⟨x,hx,h⟩:=lift_inv hF;obtain rfl:=E93i l x hx;obtain ⟨y,hy,rfl⟩:=Option.map_eq_some_iff.1 h;have hy' := hy;unfold Lslices_Clone_of__byte_byte at hy';obtain ⟨_,u1,hy'⟩:=bs hy';obtain rfl:=Option.some.inj hy';exact w93 l hl _ hy
  ·cases hF'
 ·cases x with
  | none=>exact (cnil93 c w).mono fun e w' h=>⟨none,h.1,.inl h.2⟩
  | some b=>exact (csome93 b c w).mono fun e w' h=>⟨_,h.1,.inr h.2⟩
theorem w86 : Walk tt G [(64,G64),(93,G93)] (fun _=>[]) Tryd.f86 K86:=by
 refine .of [(3,⟨[0,7,8,9],[6],[]⟩)] true body86 Tryd.ntmps86 fun T hO hT a0 x hr=>⟨by simp,?_⟩
 simp only [tabAll] at hT; simp only at hr ⊢; unfold c86;unfold Lreplace_cloneItems at hr;refine go ?_;obtain ⟨y19,ehy19,hr⟩:=bG hr fun _=>G93_eq
 simp only [E93,R93,nf,nfs] at ehy19;refine go ?_;refine lp 3 (fun (⟨p11,p12⟩ : Int×(List (List Int)))=>⟨([.one (.ms 6 0 0 (p12.length) 1)]++(und 6++([.one (.ms 6 0 0 (p12.length) 1),.one (.v (.int .i64 (y19.length : Int))),.one (.v (.int .i64 p11))]++(und 11))) : List PV),([(6,⟨0,1,List.map eS_I_u8 p12,false,true⟩)] : Boxes)⟩) hr ?_;rintro ⟨p11,p12⟩ x26r hr26
 simp only [Lreplace_cloneItems_s1] at hr26;unfold b86_1;refine nst ?_;refine go ?_;by_cases c27 : p11 < (y19.length : Int)
 ·have c27N:=nrm c27
  replace hr26:=ifP hr26
  refine go ?_;obtain ⟨_,⟨_,_,_⟩,hr26⟩:=bA hr26;obtain ⟨_,hx29,hr26⟩:=bs hr26;have ghx29:=getE_of hx29;refine go ?_;obtain ⟨_,ehy30,hr26⟩:=bG hr26 fun _=>G64_eq
  simp only [E64,R64,nf,nfs] at ehy30;refine go ?_;exact bk hr26
 ·have c27N:=nrm c27
  replace hr26:=ifN hr26
  refine go ?_;obtain ⟨r31,q31,rfl⟩:=ms hr26;refine go ?_;rintro rfl
  refine go ?_;unfold Lreplace_cloneItems_k1 at q31;refine go ?_;exact fin q31
theorem w62 : Walk tt G [(64,G64),(84,G84),(85,G85),(86,K86.G)] (fun _=>[]) Tryd.f62 K62:=by
 refine .of [(3,⟨[1,2,16,17,18],[1,2,9,12],[]⟩),(8,⟨[1,2,33,34,35],[1,2,9,12],[]⟩)] true body62 Tryd.ntmps62 fun T hO hT a0 x hr=>⟨by simp,?_⟩
 simp only [tabAll] at hT; simp only at hr ⊢; unfold c62;unfold Lreplace_cloneTx at hr;refine go ?_;obtain ⟨y37,ehy37,hr⟩:=bG hr fun _=>G84_eq
 simp only [E84,R84,nf,nfs] at ehy37;obtain ⟨y38,ehy38,hr⟩:=bG hr fun _=>G85_eq
 simp only [E85,R85,nf,nfs] at ehy38;refine go ?_;refine lp 3 (fun (⟨p12,p13⟩ : Int×(List Tapi_Input))=>⟨(und 1++([.ptr 1 0 0 0 4,.ptr 2 0 0 0 4]++(und 13++([.one (.ms 9 0 0 (p13.length) 35),.one (.v (.int .i64 (y37.length : Int))),.one (.v (.int .i64 p12))]++(und 31)))) : List PV),([(1,⟨0,4,[[.v (.int .u32 a0.1),.ms 9 0 0 (p13.length) 35,.ms 12 0 0 (y38.length) 2,.v (.int .u32 a0.2.2.2)]],false,false⟩),(2,⟨0,4,[[.v (.int .u32 0),.slice .nil [],.slice .nil [],.v (.int .u32 0)]],false,false⟩),(9,⟨0,35,List.map eapi_Input p13,false,true⟩),(12,⟨0,2,List.map eapi_Output y38,false,true⟩)] : Boxes)⟩) hr ?_;rintro ⟨p12,p13⟩ x45r hr45
 simp only [Lreplace_cloneTx_s1] at hr45;unfold b62_1;refine nst ?_;refine go ?_;by_cases c46 : p12 < (y37.length : Int)
 ·have c46N:=nrm c46
  replace hr45:=ifP hr45
  refine go ?_;obtain ⟨_,⟨_,_,_⟩,hr45⟩:=bA hr45;obtain ⟨_,hx48,hr45⟩:=bs hr45;have ghx48:=getE_of hx48;refine go ?_;obtain ⟨_,ehy49,hr45⟩:=bN hr45 G86_eq;have ghx48:=getE_of hx48;refine go ?_;exact bk hr45
 ·have c46N:=nrm c46
  replace hr45:=ifN hr45
  refine go ?_;obtain ⟨r50,q50,rfl⟩:=ms hr45;refine go ?_;rintro rfl
  refine go ?_;unfold Lreplace_cloneTx_k1 at q50;refine go ?_;refine lp 8 (fun (⟨p26,p27⟩ : Int×(List Tapi_Output))=>⟨(und 1++([.ptr 1 0 0 0 4,.ptr 2 0 0 0 4]++(und 30++([.one (.ms 12 0 0 (p27.length) 2),.one (.v (.int .i64 (y38.length : Int))),.one (.v (.int .i64 p26))]++(und 14)))) : List PV),([(1,⟨0,4,[[.v (.int .u32 a0.1),.ms 9 0 0 (p13.length) 35,.ms 12 0 0 (p27.length) 2,.v (.int .u32 a0.2.2.2)]],false,false⟩),(2,⟨0,4,[[.v (.int .u32 0),.slice .nil [],.slice .nil [],.v (.int .u32 0)]],false,false⟩),(9,⟨0,35,List.map eapi_Input p13,false,true⟩),(12,⟨0,2,List.map eapi_Output p27,false,true⟩)] : Boxes)⟩) q50 ?_;rintro ⟨p26,p27⟩ x57r hr57
  simp only [Lreplace_cloneTx_s2] at hr57;unfold b62_2;refine nst ?_;refine go ?_;by_cases c58 : p26 < (y38.length : Int)
  ·have c58N:=nrm c58
   replace hr57:=ifP hr57
   refine go ?_;obtain ⟨_,⟨_,_,_⟩,hr57⟩:=bA hr57;obtain ⟨_,hx60,hr57⟩:=bs hr57;have ghx60:=getE_of hx60;refine go ?_;obtain ⟨_,ehy61,hr57⟩:=bG hr57 fun _=>G64_eq
   simp only [E64,R64,nf,nfs] at ehy61;have ghx60:=getE_of hx60;refine go ?_;exact bk hr57
  ·have c58N:=nrm c58
   replace hr57:=ifN hr57
   refine go ?_;obtain ⟨r62,q62,rfl⟩:=ms hr57;refine go ?_;rintro rfl
   refine go ?_;unfold Lreplace_cloneTx_k2 at q62;refine go ?_;exact fin q62
end Go.Proofs.YtjdoijdjeapekaaDoor
