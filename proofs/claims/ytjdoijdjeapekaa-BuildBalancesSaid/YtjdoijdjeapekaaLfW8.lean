import Derived.Test.YtjdoijdjeapekaaLfK
import Derived.Test.YtjdoijdjeapekaaCode
namespace Go.Proofs.Ytjdoijdjeapekaa
open Go.RowKit
open Go.Av
open Go.Lc
set_option maxRecDepth 100000
set_option linter.unusedSimpArgs false
set_option linter.unusedVariables false
set_option maxHeartbeats 4000000
variable {G : Glob}
theorem w39 : Walk tt G [] (fun _=>[]) Try.f39 K39:=by
 refine .of [(3,⟨[4,7,8,9],[],[]⟩)] false body39 Try.ntmps39 fun T hO hT a0 x hr=>⟨by simp,?_⟩
 simp only [tabAll] at hT; simp only at hr ⊢; unfold c39;unfold Lspend_sum at hr;refine go ?_;refine lp 3 (fun (⟨p5,p6⟩ : Int×Int)=>⟨(und 4++([.one (.v (.int .i64 p5))]++(und 2++([.one (.slice .no (List.map eapi_Coin a0)),.one (.v (.int .i64 (a0.length : Int))),.one (.v (.int .i64 p6))]++(und 22)))) : List PV),([] : Boxes)⟩) hr ?_;rintro ⟨p5,p6⟩ x15r hr15
 simp only [Lspend_sum_s1] at hr15;unfold b39_1;refine nst ?_;refine go ?_;by_cases c16 : p6 < (a0.length : Int)
 ·have c16N:=nrm c16
  replace hr15:=ifP hr15
  refine go ?_;obtain ⟨x17,⟨_,_,_⟩,hr15⟩:=bI hr15;refine go ?_;by_cases c18 : x17.2.1.1 < 0
  ·refine go ?_
   replace hr15:=ifP hr15
   refine go ?_;exact fin hr15
  ·refine go ?_
   by_cases c19 : IntKind.i64.wrap (2100000000000000 - p5) < x17.2.1.1
   ·replace hr15:=ifP hr15
    refine go ?_;exact fin hr15
   ·replace hr15:=ifN hr15
    refine go ?_;exact bk hr15
 ·have c16N:=nrm c16
  replace hr15:=ifN hr15
  refine go ?_;obtain ⟨r20,q20,rfl⟩:=ms hr15;refine go ?_;rintro rfl
  refine go ?_;unfold Lspend_sum_k1 at q20;refine go ?_;exact fin q20
theorem w27 : Walk tt G [(25,K25.G),(39,K39.G)] (fun _=>[]) Try.f27 K27:=by
 refine .of [(7,⟨[1,2,24,25,26],[2],[]⟩),(16,⟨[9,49,50,51],[],[]⟩)] false body27 Try.ntmps27 fun T hO hT ⟨a0,a1⟩ x hr=>⟨by simp,?_⟩
 simp only [tabAll] at hT; simp only at hr ⊢; unfold c27;unfold Lspend_Fee at hr;refine go ?_;obtain ⟨y21,ehy21,hr⟩:=bN hr G25_eq;refine go ?_;rcases eqT (y21 = 0) with c22 | c22
 ·replace hr:=ifN hr
  refine go ?_;rcases eqT ((a1.length : Int) = (a0.2.1.length : Int)) with c23 | c23
  ·have c23N:=nrm c23
   replace hr:=ifN hr
   refine go ?_;refine lp 7 (fun (p7 : Int)=>⟨(und 1++([.one (.slice .no (List.map eapi_Coin a1)),.ptr 2 0 0 0 4]++(und 21++([.one (.slice .no (List.map eapi_Coin a1)),.one (.v (.int .i64 (a1.length : Int))),.one (.v (.int .i64 p7))]++(und 36)))) : List PV),([(2,⟨0,4,[[.v (.int .u32 a0.1),.slice .no (List.map eapi_Input a0.2.1),.slice .no (List.map eapi_Output a0.2.2.1),.v (.int .u32 a0.2.2.2)]],false,false⟩)] : Boxes)⟩) hr ?_;rintro p7 x31r hr31
   simp only [Lspend_Fee_s1] at hr31;unfold b27_1;refine nst ?_;refine go ?_;by_cases c32 : p7 < (a1.length : Int)
   ·have c32N:=nrm c32
    replace hr31:=ifP hr31
    refine go ?_;obtain ⟨x33,⟨_,_,_⟩,hr31⟩:=bI hr31;refine go ?_;obtain ⟨x34,⟨_,_,_⟩,hr31⟩:=bI hr31;refine go ?_;rcases eqT (x33.1.1 = x34.1.1) with c35 | c35
    ·rcases eqT (x33.1.2 = x34.1.2) with c36 | c36
     ·replace hr31:=ifN hr31
      refine go ?_;exact bk hr31
     ·replace hr31:=ifP hr31
      refine go ?_;exact fin hr31
    ·replace hr31:=ifP hr31
     refine go ?_;exact fin hr31
   ·have c32N:=nrm c32
    replace hr31:=ifN hr31
    refine go ?_;obtain ⟨r37,q37,rfl⟩:=ms hr31;refine go ?_;rintro rfl
    refine go ?_;unfold Lspend_Fee_k1 at q37;obtain ⟨y38,ehy38,q37⟩:=bN q37 G39_eq;refine go ?_;by_cases c39 : y38.2 = true
    ·replace q37:=ifN q37
     refine go ?_;refine lp 16 (fun (⟨p15,p16⟩ : Int×Int)=>⟨(und 9++([.one (.v (.int .i64 p15))]++(und 39++([.one (.slice .no (List.map eapi_Output a0.2.2.1)),.one (.v (.int .i64 (a0.2.2.1.length : Int))),.one (.v (.int .i64 p16))]++(und 11)))) : List PV),([] : Boxes)⟩) q37 ?_;rintro ⟨p15,p16⟩ x44r hr44
     simp only [Lspend_Fee_s2] at hr44;unfold b27_2;refine nst ?_;refine go ?_;by_cases c45 : p16 < (a0.2.2.1.length : Int)
     ·have c45N:=nrm c45
      replace hr44:=ifP hr44
      refine go ?_;obtain ⟨_,⟨_,_,_⟩,hr44⟩:=bI hr44;refine go ?_;exact bk hr44
     ·have c45N:=nrm c45
      replace hr44:=ifN hr44
      refine go ?_;obtain ⟨r47,q47,rfl⟩:=ms hr44;refine go ?_;rintro rfl
      refine go ?_;unfold Lspend_Fee_k2 at q47;refine go ?_;by_cases c48 : p15 < 0
      ·replace q47:=ifP q47
       refine go ?_;exact fin q47
      ·replace q47:=ifN q47
       refine go ?_;exact fin q47
    ·replace q37:=ifP q37
     refine go ?_;exact fin q37
  ·have c23N:=nrm c23
   replace hr:=ifP hr
   refine go ?_;exact fin hr
 ·replace hr:=ifP hr
  refine go ?_;exact fin hr
theorem w11 : Walk tt G [(25,K25.G),(26,K26.G),(27,K27.G)] (fun _=>[]) Try.f11 K11:=by
 refine .of [(4,⟨[1,18,19,20],[1],[]⟩)] false body11 Try.ntmps11 fun T hO hT a0 x hr=>⟨by simp,?_⟩
 simp only [tabAll] at hT; simp only at hr ⊢; unfold c11;unfold Lbuild_Valid at hr;refine go ?_;obtain ⟨y11,ehy11,hr⟩:=bN hr G25_eq;rcases eqT (y11 = 0) with c12 | c12
 ·replace hr:=ifNb hr
  obtain ⟨_,hz13,hr⟩:=bs hr;obtain ⟨y14,ehy14,hz13⟩:=bN hz13 G26_eq;obtain rfl:=Option.some.inj hz13;refine go ?_;by_cases c15 : y14 = true
  ·replace hr:=ifP hr
   refine go ?_;exact fin hr
  ·replace hr:=ifN hr
   refine go ?_;refine lp 4 (fun (p7 : Int)=>⟨(und 1++([.ptr 1 0 0 0 7]++(und 16++([.one (.slice .no (List.map eapi_Input a0.1.2.1)),.one (.v (.int .i64 (a0.1.2.1.length : Int))),.one (.v (.int .i64 p7))]++(und 36)))) : List PV),([(1,⟨0,7,[[.v (.int .u32 a0.1.1),.slice .no (List.map eapi_Input a0.1.2.1),.slice .no (List.map eapi_Output a0.1.2.2.1),.v (.int .u32 a0.1.2.2.2),.slice .no (List.map eapi_Coin a0.2.1),.v (.int .i64 a0.2.2.1),.v (.int .i64 a0.2.2.2)]],false,false⟩)] : Boxes)⟩) hr ?_;rintro p7 x21r hr21
   simp only [Lbuild_Valid_s1] at hr21;unfold b11_1;refine nst ?_;refine go ?_;by_cases c22 : p7 < (a0.1.2.1.length : Int)
   ·have c22N:=nrm c22
    replace hr21:=ifP hr21
    refine go ?_;obtain ⟨x23,⟨_,_,_⟩,hr21⟩:=bI hr21;refine go ?_;by_cases c24 : 0 < (x23.2.2.length : Int)
    ·have c24N:=nrm c24
     replace hr21:=ifP hr21
     refine go ?_;exact fin hr21
    ·have c24N:=nrm c24
     have c24L : ¬ 0 < x23.2.2.length:=by omega
     replace hr21:=ifN hr21
     refine go ?_;exact bk hr21
   ·have c22N:=nrm c22
    replace hr21:=ifN hr21
    refine go ?_;obtain ⟨r25,q25,rfl⟩:=ms hr21;refine go ?_;rintro rfl
    refine go ?_;unfold Lbuild_Valid_k1 at q25;refine go ?_;by_cases c26 : a0.2.2.2 < (-1)
    ·refine go ?_
     replace q25:=ifP q25
     refine go ?_;exact fin q25
    ·refine go ?_
     by_cases c27 : (a0.1.2.2.1.length : Int)≤a0.2.2.2
     ·have c27N:=nrm c27
      replace q25:=ifP q25
      refine go ?_;exact fin q25
     ·have c27N:=nrm c27
      replace q25:=ifN q25
      refine go ?_;obtain ⟨y28,ehy28,q25⟩:=bN q25 G27_eq;refine go ?_;rcases eqT (y28.2 = 0) with c29 | c29
      ·refine go ?_
       exact fin q25
      ·refine go ?_
       exact fin q25
 ·replace hr:=ifPb hr
  obtain ⟨_,hz30,hr⟩:=bs hr;obtain rfl:=Option.some.inj hz30;refine go ?_
  replace hr:=ifP hr
  refine go ?_;exact fin hr
theorem w28 : Walk tt G [] (fun _=>[]) Try.f28 K28:=by
 refine .of [] false body28 Try.ntmps28 fun T hO hT ⟨a0,a1⟩ x hr=>⟨by simp,?_⟩
 simp only [tabAll] at hT; simp only at hr ⊢; unfold c28;unfold Lref01_Same at hr;refine go ?_;exact fin hr
theorem w12 : Walk tt G [(28,K28.G)] (fun _=>[]) Try.f12 K12:=by
 refine .of [] false body12 Try.ntmps12 fun T hO hT ⟨a0,a1⟩ x hr=>⟨by simp,?_⟩
 simp only [tabAll] at hT; simp only at hr ⊢; unfold c12;unfold Lref09_SameOut at hr;refine go ?_;rcases eqT (a0.1 = a1.1) with c3 | c3
 ·replace hr:=ifPb hr
  obtain ⟨_,hz4,hr⟩:=bs hr;obtain ⟨_,ehy5,hz4⟩:=bN hz4 G28_eq;obtain rfl:=Option.some.inj hz4;refine go ?_;exact fin hr
 ·replace hr:=ifNb hr
  obtain ⟨_,hz6,hr⟩:=bs hr;obtain rfl:=Option.some.inj hz6;refine go ?_;exact fin hr
theorem w64 : Walk tt G [] (fun _=>[]) Try.f64 K64:=by
 refine .of [] true body64 Try.ntmps64 fun T hO hT ⟨a0,a1⟩ x hr=>⟨by simp,?_⟩
 simp only [tabAll] at hT; simp only at hr ⊢; unfold c64;unfold Lref01_joined at hr;refine go ?_;obtain ⟨⟨_,_⟩,hr⟩:=bC hr;have mf5 : 0≤(IntKind.i64.wrap ((a0.length : Int) + (a1.length : Int))).toNat:=by omega
 have mf6 : (IntKind.i64.wrap ((a0.length : Int) + (a1.length : Int))).toNat≤140737488355328:=by omega
 have mf7 : (IntKind.i64.wrap ((a0.length : Int) + (a1.length : Int))).toNat≤9223372036854775807:=by omega
 have mf8 : 0≤IntKind.i64.wrap ((a0.length : Int) + (a1.length : Int)):=by omega
 refine go ?_;obtain ⟨_,hr⟩:=bC hr;have n1_u9_0 : a0.length≤140737488355328:=by omega
 have n2_u9_0 : a0.length≤9223372036854775807:=by omega
 obtain ⟨_,hr⟩:=bC hr;have n1_u10_0 : a0.length + a1.length≤140737488355328:=by omega
 have n2_u10_0 : a0.length + a1.length≤9223372036854775807:=by omega
 refine go ?_;exact fin hr
theorem w65 : Walk tt G [] (fun _=>[]) Try.f65 K65:=by
 refine .of [(3,⟨[0,5,10,11],[8],[]⟩)] true body65 Try.ntmps65 fun T hO hT ⟨a0,a1⟩ x hr=>⟨by simp,?_⟩
 simp only [tabAll] at hT; simp only at hr ⊢; unfold c65;unfold Lref01_little at hr;refine go ?_;obtain ⟨⟨_,_⟩,hr⟩:=bC hr;have mf15 : (a1).toNat≤140737488355328:=by omega
 have mf16 : (a1).toNat≤9223372036854775807:=by omega
 have mf17 : 0≤a1:=by omega
 refine go ?_;refine lp 3 (fun (⟨p8,p9⟩ : Int×(List Int))=>⟨([.one (.v (.int .u64 a0))]++(und 4++([.one (.ms 8 0 0 (p9.length) 1)]++(und 4++([.one (.v (.int .i64 ((List.replicate ((a1).toNat) 0).length : Int))),.one (.v (.int .i64 p8))]++(und 12))))) : List PV),([(8,⟨0,1,intsR .u8 p9,false,true⟩)] : Boxes)⟩) hr ?_;rintro ⟨p8,p9⟩ x23r hr23
 simp only [Lref01_little_s1] at hr23;unfold b65_1;refine nst ?_;refine go ?_;by_cases c24 : p8 < ((List.replicate ((a1).toNat) 0).length : Int)
 ·have c24N:=nrm c24
  replace hr23:=ifP hr23
  refine go ?_;obtain ⟨_,hr23⟩:=bC hr23;obtain ⟨_,⟨_,_,_⟩,hr23⟩:=bA hr23;refine go ?_;exact bk hr23
 ·have c24N:=nrm c24
  replace hr23:=ifN hr23
  refine go ?_;obtain ⟨r27,q27,rfl⟩:=ms hr23;refine go ?_;rintro rfl
  refine go ?_;unfold Lref01_little_k1 at q27;refine go ?_;exact fin q27
theorem w59 : Walk tt G [(64,K64.G),(65,K65.G)] (fun _=>[]) Try.f59 K59:=by
 refine .of [] true body59 Try.ntmps59 fun T hO hT ⟨a0,a1⟩ x hr=>⟨by simp,?_⟩
 simp only [tabAll] at hT; simp only at hr ⊢; unfold c59;unfold Lref01_AppendU32 at hr;refine go ?_;obtain ⟨_,ehy3,hr⟩:=bN hr G65_eq;obtain ⟨_,ehy4,hr⟩:=bN hr G64_eq;refine go ?_;exact fin hr
theorem w60 : Walk tt G [(64,K64.G),(65,K65.G)] (fun _=>[]) Try.f60 K60:=by
 refine .of [] true body60 Try.ntmps60 fun T hO hT ⟨a0,a1⟩ x hr=>⟨by simp,?_⟩
 simp only [tabAll] at hT; simp only at hr ⊢; unfold c60;unfold Lref01_AppendSize at hr;refine go ?_;by_cases c12 : a1 < 253
 ·replace hr:=ifP hr
  refine go ?_;obtain ⟨_,ehy13,hr⟩:=bN hr G65_eq;obtain ⟨_,ehy14,hr⟩:=bN hr G64_eq;refine go ?_;exact fin hr
 ·replace hr:=ifN hr
  refine go ?_;by_cases c15 : a1 < 65536
  ·replace hr:=ifP hr
   refine go ?_;obtain ⟨_,ehy16,hr⟩:=bN hr G65_eq;obtain ⟨_,ehy17,hr⟩:=bN hr G64_eq;obtain ⟨_,ehy18,hr⟩:=bN hr G64_eq;refine go ?_;exact fin hr
  ·replace hr:=ifN hr
   refine go ?_;by_cases c19 : a1 < 4294967296
   ·replace hr:=ifP hr
    refine go ?_;obtain ⟨_,ehy20,hr⟩:=bN hr G65_eq;obtain ⟨_,ehy21,hr⟩:=bN hr G64_eq;obtain ⟨_,ehy22,hr⟩:=bN hr G64_eq;refine go ?_;exact fin hr
   ·replace hr:=ifN hr
    refine go ?_;obtain ⟨_,ehy23,hr⟩:=bN hr G65_eq;obtain ⟨_,ehy24,hr⟩:=bN hr G64_eq;obtain ⟨_,ehy25,hr⟩:=bN hr G64_eq;refine go ?_;exact fin hr
theorem w66 : Walk tt G [(64,K64.G)] (fun _=>[]) Try.f66 K66:=by
 refine .of [] true body66 Try.ntmps66 fun T hO hT ⟨a0,a1⟩ x hr=>⟨by simp,?_⟩
 simp only [tabAll] at hT; simp only at hr ⊢; unfold c66;unfold Lref01_AppendHash at hr;refine go ?_;obtain ⟨_,ehy2,hr⟩:=bN hr G64_eq;refine go ?_;exact fin hr
theorem w61 : Walk tt G [(59,K59.G),(66,K66.G)] (fun _=>[]) Try.f61 K61:=by
 refine .of [] true body61 Try.ntmps61 fun T hO hT a0 x hr=>⟨by simp,?_⟩
 simp only [tabAll] at hT; simp only at hr ⊢; unfold c61;unfold Lref09_Point at hr;refine go ?_;obtain ⟨_,ehy3,hr⟩:=bN hr G66_eq;obtain ⟨_,ehy4,hr⟩:=bN hr G59_eq;refine go ?_;exact fin hr
theorem w63 : Walk tt G [(60,K60.G),(64,K64.G)] (fun _=>[]) Try.f63 K63:=by
 refine .of [] true body63 Try.ntmps63 fun T hO hT ⟨a0,a1⟩ x hr=>⟨by simp,?_⟩
 simp only [tabAll] at hT; simp only at hr ⊢; unfold c63;unfold Lref01_AppendBytes at hr;refine go ?_;obtain ⟨_,ehy3,hr⟩:=bN hr G60_eq;obtain ⟨_,ehy4,hr⟩:=bN hr G64_eq;refine go ?_;exact fin hr
theorem w67 : Walk tt G [(64,K64.G),(65,K65.G)] (fun _=>[]) Try.f67 K67:=by
 refine .of [] true body67 Try.ntmps67 fun T hO hT ⟨a0,a1⟩ x hr=>⟨by simp,?_⟩
 simp only [tabAll] at hT; simp only at hr ⊢; unfold c67;unfold Lref01_AppendU64 at hr;refine go ?_;obtain ⟨_,ehy3,hr⟩:=bN hr G65_eq;obtain ⟨_,ehy4,hr⟩:=bN hr G64_eq;refine go ?_;exact fin hr
theorem w62 : Walk tt G [(63,K63.G),(67,K67.G)] (fun _=>[]) Try.f62 K62:=by
 refine .of [] true body62 Try.ntmps62 fun T hO hT a0 x hr=>⟨by simp,?_⟩
 simp only [tabAll] at hT; simp only at hr ⊢; unfold c62;unfold Lref09_Out at hr;refine go ?_;obtain ⟨_,ehy3,hr⟩:=bN hr G67_eq;obtain ⟨_,ehy4,hr⟩:=bN hr G63_eq;refine go ?_;exact fin hr
end Go.Proofs.Ytjdoijdjeapekaa
