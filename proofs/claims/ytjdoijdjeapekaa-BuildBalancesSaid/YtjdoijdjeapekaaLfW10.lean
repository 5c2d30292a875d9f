import Derived.Test.YtjdoijdjeapekaaLfK
import Derived.Test.YtjdoijdjeapekaaCode
namespace Go.Proofs.Ytjdoijdjeapekaa
open Go.RowKit
open Go.Av
open Go.Lc
set_option maxRecDepth 100000
set_option linter.unusedSimpArgs false
set_option linter.unusedVariables false
set_option maxHeartbeats 4000000
variable {G : Glob}
theorem w29 : Walk tt G [(40,K40.G),(41,K41.G),(42,K42.G)] (fun _=>[]) Try.f29 K29:=by
 refine .of [(7,⟨[1,3,24,25,26],[1],[]⟩),(16,⟨[1,42,43],[1],[]⟩),(19,⟨[1,6,7,42,43],[1],[]⟩),(25,⟨[1,66,67,68],[1],[]⟩)] false body29 Try.ntmps29 fun T hO hT a0 x hr=>⟨by simp,?_⟩
 simp only [tabAll] at hT; simp only at hr ⊢; unfold c29;unfold Lref09_Check at hr;refine go ?_;obtain ⟨y63,ehy63,hr⟩:=bN hr G40_eq;refine go ?_;by_cases c64 : y63 = true
 ·replace hr:=ifN hr
  refine go ?_;rcases eqT ((a0.2.1.length : Int) = 0) with c65 | c65
  ·have c65N:=nrm c65
   refine go ?_
   replace hr:=ifP hr
   refine go ?_;exact fin hr
  ·have c65N:=nrm c65
   refine go ?_;rcases eqT ((a0.2.2.1.length : Int) = 0) with c66 | c66
   ·have c66N:=nrm c66
    replace hr:=ifP hr
    refine go ?_;exact fin hr
   ·have c66N:=nrm c66
    replace hr:=ifN hr
    refine go ?_;refine lp 7 (fun (⟨p6,p7⟩ : Int×Int)=>⟨(und 1++([.ptr 1 0 0 0 4]++(und 1++([.one (.v (.int .i64 p6))]++(und 20++([.one (.slice .no (List.map eapi_Output a0.2.2.1)),.one (.v (.int .i64 (a0.2.2.1.length : Int))),.one (.v (.int .i64 p7))]++(und 54)))))) : List PV),([(1,⟨0,4,[[.v (.int .u32 a0.1),.slice .no (List.map eapi_Input a0.2.1),.slice .no (List.map eapi_Output a0.2.2.1),.v (.int .u32 a0.2.2.2)]],false,false⟩)] : Boxes)⟩) hr ?_;rintro ⟨p6,p7⟩ x72r hr72
    simp only [Lref09_Check_s1] at hr72;unfold b29_1;refine nst ?_;refine go ?_;by_cases c73 : p7 < (a0.2.2.1.length : Int)
    ·have c73N:=nrm c73
     replace hr72:=ifP hr72
     refine go ?_;obtain ⟨x74,⟨_,_,_⟩,hr72⟩:=bI hr72;refine go ?_;by_cases c75 : 2100000000000000 < x74.1
     ·replace hr72:=ifP hr72
      refine go ?_;exact fin hr72
     ·replace hr72:=ifN hr72
      refine go ?_;exact bk hr72
    ·have c73N:=nrm c73
     replace hr72:=ifN hr72
     refine go ?_;obtain ⟨r76,q76,rfl⟩:=ms hr72;refine go ?_;rintro rfl
     refine go ?_;unfold Lref09_Check_k1 at q76;refine go ?_;by_cases c77 : 2100000000000000 < p6
     ·replace q76:=ifP q76
      refine go ?_;exact fin q76
     ·replace q76:=ifN q76
      refine go ?_;refine lp 16 (fun (p25 : Int)=>⟨(und 1++([.ptr 1 0 0 0 4]++(und 40++([.one (.v (.int .i64 (a0.2.1.length : Int))),.one (.v (.int .i64 p25))]++(und 37)))) : List PV),([(1,⟨0,4,[[.v (.int .u32 a0.1),.slice .no (List.map eapi_Input a0.2.1),.slice .no (List.map eapi_Output a0.2.2.1),.v (.int .u32 a0.2.2.2)]],false,false⟩)] : Boxes)⟩) q76 ?_;rintro p25 x95r hr95
      simp only [Lref09_Check_s2] at hr95;unfold b29_2;refine nst ?_;refine go ?_;by_cases c96 : p25 < (a0.2.1.length : Int)
      ·have c96N:=nrm c96
       replace hr95:=ifP hr95
       refine go ?_;refine lp 19 (fun (p57 : Int)=>⟨(und 1++([.ptr 1 0 0 0 4]++(und 4++([.one (.v (.int .i64 p25)),.one (.v (.int .i64 p57))]++(und 34++([.one (.v (.int .i64 (a0.2.1.length : Int))),.one (.v (.int .i64 p25))]++(und 37)))))) : List PV),([(1,⟨0,4,[[.v (.int .u32 a0.1),.slice .no (List.map eapi_Input a0.2.1),.slice .no (List.map eapi_Output a0.2.2.1),.v (.int .u32 a0.2.2.2)]],false,false⟩)] : Boxes)⟩) hr95 ?_;rintro p57 x104r hr104
       simp only [Lref09_Check_s4] at hr104;unfold b29_3;refine nst ?_;refine go ?_;by_cases c105 : p57 < p25
       ·replace hr104:=ifP hr104
        refine go ?_;obtain ⟨x106,⟨_,_,_⟩,hr104⟩:=bI hr104;obtain ⟨x107,⟨_,_,_⟩,hr104⟩:=bI hr104;refine go ?_;rcases eqT (x106.1.1 = x107.1.1) with c108 | c108
        ·rcases eqT (x106.1.2 = x107.1.2) with c109 | c109
         ·replace hr104:=ifP hr104
          refine go ?_;exact fin hr104
         ·replace hr104:=ifN hr104
          refine go ?_;exact bk hr104
        ·replace hr104:=ifN hr104
         refine go ?_;exact bk hr104
       ·replace hr104:=ifN hr104
        refine go ?_;obtain ⟨r110,q110,rfl⟩:=ms hr104;refine go ?_;rintro rfl
        refine go ?_;unfold Lref09_Check_k4 at q110;refine go ?_;exact bk q110
      ·have c96N:=nrm c96
       replace hr95:=ifN hr95
       refine go ?_;obtain ⟨r111,q111,rfl⟩:=ms hr95;refine go ?_;rintro rfl
       refine go ?_;unfold Lref09_Check_k2 at q111;refine go ?_;refine lp 25 (fun (p43 : Int)=>⟨(und 1++([.ptr 1 0 0 0 4]++(und 64++([.one (.slice .no (List.map eapi_Input a0.2.1)),.one (.v (.int .i64 (a0.2.1.length : Int))),.one (.v (.int .i64 p43))]++(und 12)))) : List PV),([(1,⟨0,4,[[.v (.int .u32 a0.1),.slice .no (List.map eapi_Input a0.2.1),.slice .no (List.map eapi_Output a0.2.2.1),.v (.int .u32 a0.2.2.2)]],false,false⟩)] : Boxes)⟩) q111 ?_;rintro p43 x122r hr122
       simp only [Lref09_Check_s3] at hr122;unfold b29_4;refine nst ?_;refine go ?_;by_cases c123 : p43 < (a0.2.1.length : Int)
       ·have c123N:=nrm c123
        replace hr122:=ifP hr122
        refine go ?_;obtain ⟨_,⟨_,_,_⟩,hr122⟩:=bI hr122;refine go ?_;obtain ⟨y125,ehy125,hr122⟩:=bN hr122 G41_eq;by_cases c126 : y125 = true
        ·replace hr122:=ifPb hr122
         obtain ⟨_,hz127,hr122⟩:=bs hr122;obtain ⟨y128,ehy128,hz127⟩:=bN hz127 G42_eq;obtain rfl:=Option.some.inj hz127;refine go ?_;by_cases c129 : y128 = true
         ·replace hr122:=ifN hr122
          refine go ?_;exact bk hr122
         ·replace hr122:=ifP hr122
          refine go ?_;exact fin hr122
        ·replace hr122:=ifNb hr122
         obtain ⟨_,hz130,hr122⟩:=bs hr122;obtain rfl:=Option.some.inj hz130;refine go ?_
         replace hr122:=ifN hr122
         refine go ?_;exact bk hr122
       ·have c123N:=nrm c123
        replace hr122:=ifN hr122
        refine go ?_;obtain ⟨r131,q131,rfl⟩:=ms hr122;refine go ?_;rintro rfl
        refine go ?_;unfold Lref09_Check_k3 at q131;refine go ?_;exact fin q131
 ·replace hr:=ifP hr
  refine go ?_;exact fin hr
theorem w13 : Walk tt G [(29,K29.G)] (fun _=>[]) Try.f13 K13:=by
 refine .of [(7,⟨[1,2,25,26],[2],[]⟩),(14,⟨[2,8,42,43,44],[2],[]⟩),(23,⟨[8,67,68,69],[],[]⟩)] false body13 Try.ntmps13 fun T hO hT ⟨a0,a1⟩ x hr=>⟨by simp,?_⟩
 simp only [tabAll] at hT; simp only at hr ⊢; unfold c13;unfold Lref10_Fee at hr;refine go ?_;obtain ⟨y28,ehy28,hr⟩:=bN hr G29_eq;refine go ?_;rcases eqT (y28 = 0) with c29 | c29
 ·replace hr:=ifN hr
  refine go ?_;rcases eqT ((a1.length : Int) = (a0.2.1.length : Int)) with c30 | c30
  ·have c30N:=nrm c30
   replace hr:=ifN hr
   refine go ?_;refine lp 7 (fun (p7 : Int)=>⟨(und 1++([.one (.slice .no (List.map eapi_Coin a1)),.ptr 2 0 0 0 4]++(und 22++([.one (.v (.int .i64 (a1.length : Int))),.one (.v (.int .i64 p7))]++(und 54)))) : List PV),([(2,⟨0,4,[[.v (.int .u32 a0.1),.slice .no (List.map eapi_Input a0.2.1),.slice .no (List.map eapi_Output a0.2.2.1),.v (.int .u32 a0.2.2.2)]],false,false⟩)] : Boxes)⟩) hr ?_;rintro p7 x38r hr38
   simp only [Lref10_Fee_s1] at hr38;unfold b13_1;refine nst ?_;refine go ?_;by_cases c39 : p7 < (a1.length : Int)
   ·have c39N:=nrm c39
    replace hr38:=ifP hr38
    refine go ?_;obtain ⟨x40,⟨_,_,_⟩,hr38⟩:=bI hr38;obtain ⟨x41,⟨_,_,_⟩,hr38⟩:=bI hr38;refine go ?_;rcases eqT (x40.1.1 = x41.1.1) with c42 | c42
    ·rcases eqT (x40.1.2 = x41.1.2) with c43 | c43
     ·replace hr38:=ifN hr38
      refine go ?_;exact bk hr38
     ·replace hr38:=ifP hr38
      refine go ?_;exact fin hr38
    ·replace hr38:=ifP hr38
     refine go ?_;exact fin hr38
   ·have c39N:=nrm c39
    replace hr38:=ifN hr38
    refine go ?_;obtain ⟨r44,q44,rfl⟩:=ms hr38;refine go ?_;rintro rfl
    refine go ?_;unfold Lref10_Fee_k1 at q44;refine go ?_;refine lp 14 (fun (⟨p14,p15⟩ : Int×Int)=>⟨(und 2++([.ptr 2 0 0 0 4]++(und 5++([.one (.v (.int .i64 p14))]++(und 33++([.one (.slice .no (List.map eapi_Coin a1)),.one (.v (.int .i64 (a1.length : Int))),.one (.v (.int .i64 p15))]++(und 36)))))) : List PV),([(2,⟨0,4,[[.v (.int .u32 a0.1),.slice .no (List.map eapi_Input a0.2.1),.slice .no (List.map eapi_Output a0.2.2.1),.v (.int .u32 a0.2.2.2)]],false,false⟩)] : Boxes)⟩) q44 ?_;rintro ⟨p14,p15⟩ x51r hr51
    simp only [Lref10_Fee_s2] at hr51;unfold b13_2;refine nst ?_;refine go ?_;by_cases c52 : p15 < (a1.length : Int)
    ·have c52N:=nrm c52
     replace hr51:=ifP hr51
     refine go ?_;obtain ⟨x53,⟨_,_,_⟩,hr51⟩:=bI hr51;refine go ?_;by_cases c54 : x53.2.1.1 < 0
     ·refine go ?_
      replace hr51:=ifP hr51
      refine go ?_;exact fin hr51
     ·refine go ?_
      by_cases c55 : 2100000000000000 < x53.2.1.1
      ·replace hr51:=ifP hr51
       refine go ?_;exact fin hr51
      ·replace hr51:=ifN hr51
       refine go ?_;exact bk hr51
    ·have c52N:=nrm c52
     replace hr51:=ifN hr51
     refine go ?_;obtain ⟨r56,q56,rfl⟩:=ms hr51;refine go ?_;rintro rfl
     refine go ?_;unfold Lref10_Fee_k2 at q56;refine go ?_;by_cases c57 : 2100000000000000 < p14
     ·replace q56:=ifP q56
      refine go ?_;exact fin q56
     ·replace q56:=ifN q56
      refine go ?_;refine lp 23 (fun (⟨p21,p22⟩ : Int×Int)=>⟨(und 8++([.one (.v (.int .i64 p21))]++(und 58++([.one (.slice .no (List.map eapi_Output a0.2.2.1)),.one (.v (.int .i64 (a0.2.2.1.length : Int))),.one (.v (.int .i64 p22))]++(und 11)))) : List PV),([] : Boxes)⟩) q56 ?_;rintro ⟨p21,p22⟩ x62r hr62
      simp only [Lref10_Fee_s3] at hr62;unfold b13_3;refine nst ?_;refine go ?_;by_cases c63 : p22 < (a0.2.2.1.length : Int)
      ·have c63N:=nrm c63
       replace hr62:=ifP hr62
       refine go ?_;obtain ⟨_,⟨_,_,_⟩,hr62⟩:=bI hr62;refine go ?_;exact bk hr62
      ·have c63N:=nrm c63
       replace hr62:=ifN hr62
       refine go ?_;obtain ⟨r65,q65,rfl⟩:=ms hr62;refine go ?_;rintro rfl
       refine go ?_;unfold Lref10_Fee_k3 at q65;refine go ?_;by_cases c66 : p21 < 0
       ·replace q65:=ifP q65
        refine go ?_;exact fin q65
       ·replace q65:=ifN q65
        refine go ?_;exact fin q65
  ·have c30N:=nrm c30
   replace hr:=ifP hr
   refine go ?_;exact fin hr
 ·replace hr:=ifP hr
  refine go ?_;exact fin hr
end Go.Proofs.Ytjdoijdjeapekaa
