import Derived.Test.YtjdoijdjeapekaaGreatDoorLfK
import Derived.Test.YtjdoijdjeapekaaGreatDoorCode
namespace Go.Proofs.YtjdoijdjeapekaaGreatDoor
open Go.RowKit
open Go.Av
open Go.Lc
set_option maxRecDepth 100000
set_option linter.unusedSimpArgs false
set_option linter.unusedVariables false
set_option maxHeartbeats 4000000
theorem w62 : Walk tt G [(52,K52.G),(63,K63.G),(90,K90.G)] (fun _=>[]) Tryz.f62 K62:=by
 refine .of [(7,⟨[1,3,24,25,26],[1],[]⟩),(16,⟨[1,42,43],[1],[]⟩),(19,⟨[1,6,7,42,43],[1],[]⟩),(25,⟨[1,66,67,68],[1],[]⟩)] false body62 Tryz.ntmps62 fun T hO hT a0 x hr=>⟨by simp,?_⟩
 simp only [tabAll] at hT; simp only at hr ⊢; unfold c62;unfold Lref09_Check at hr;refine go ?_;obtain ⟨y63,ehy63,hr⟩:=bN hr G52_eq;refine go ?_;by_cases c64 : y63 = true
 ·replace hr:=ifN hr
  refine go ?_;rcases eqT ((a0.2.1.length : Int) = 0) with c65 | c65
  ·have c65N:=nrm c65
   refine go ?_
   replace hr:=ifP hr
   refine go ?_;exact fin hr
  ·have c65N:=nrm c65
   refine go ?_;rcases eqT ((a0.2.2.1.length : Int) = 0) with c66 | c66
   ·have c66N:=nrm c66
    replace hr:=ifP hr
    refine go ?_;exact fin hr
   ·have c66N:=nrm c66
    replace hr:=ifN hr
    refine go ?_;refine lp 7 (fun (⟨p6,p7⟩ : Int×Int)=>⟨(und 1++([.ptr 1 0 0 0 4]++(und 1++([.one (.v (.int .i64 p6))]++(und 20++([.one (.slice .no (List.map eapi_Output a0.2.2.1)),.one (.v (.int .i64 (a0.2.2.1.length : Int))),.one (.v (.int .i64 p7))]++(und 54)))))) : List PV),([(1,⟨0,4,[[.v (.int .u32 a0.1),.slice .no (List.map eapi_Input a0.2.1),.slice .no (List.map eapi_Output a0.2.2.1),.v (.int .u32 a0.2.2.2)]],false,false⟩)] : Boxes)⟩) hr ?_;rintro ⟨p6,p7⟩ x72r hr72
    simp only [Lref09_Check_s1] at hr72;unfold b62_1;refine nst ?_;refine go ?_;by_cases c73 : p7 < (a0.2.2.1.length : Int)
    ·have c73N:=nrm c73
     replace hr72:=ifP hr72
     refine go ?_;obtain ⟨x74,⟨_,_,_⟩,hr72⟩:=bI hr72;refine go ?_;by_cases c75 : 2100000000000000 < x74.1
     ·replace hr72:=ifP hr72
      refine go ?_;exact fin hr72
     ·replace hr72:=ifN hr72
      refine go ?_;exact bk hr72
    ·have c73N:=nrm c73
     replace hr72:=ifN hr72
     refine go ?_;obtain ⟨r76,q76,rfl⟩:=ms hr72;refine go ?_;rintro rfl
     refine go ?_;unfold Lref09_Check_k1 at q76;refine go ?_;by_cases c77 : 2100000000000000 < p6
     ·replace q76:=ifP q76
      refine go ?_;exact fin q76
     ·replace q76:=ifN q76
      refine go ?_;refine lp 16 (fun (p25 : Int)=>⟨(und 1++([.ptr 1 0 0 0 4]++(und 40++([.one (.v (.int .i64 (a0.2.1.length : Int))),.one (.v (.int .i64 p25))]++(und 37)))) : List PV),([(1,⟨0,4,[[.v (.int .u32 a0.1),.slice .no (List.map eapi_Input a0.2.1),.slice .no (List.map eapi_Output a0.2.2.1),.v (.int .u32 a0.2.2.2)]],false,false⟩)] : Boxes)⟩) q76 ?_;rintro p25 x95r hr95
      simp only [Lref09_Check_s2] at hr95;unfold b62_2;refine nst ?_;refine go ?_;by_cases c96 : p25 < (a0.2.1.length : Int)
      ·have c96N:=nrm c96
       replace hr95:=ifP hr95
       refine go ?_;refine lp 19 (fun (p57 : Int)=>⟨(und 1++([.ptr 1 0 0 0 4]++(und 4++([.one (.v (.int .i64 p25)),.one (.v (.int .i64 p57))]++(und 34++([.one (.v (.int .i64 (a0.2.1.length : Int))),.one (.v (.int .i64 p25))]++(und 37)))))) : List PV),([(1,⟨0,4,[[.v (.int .u32 a0.1),.slice .no (List.map eapi_Input a0.2.1),.slice .no (List.map eapi_Output a0.2.2.1),.v (.int .u32 a0.2.2.2)]],false,false⟩)] : Boxes)⟩) hr95 ?_;rintro p57 x104r hr104
       simp only [Lref09_Check_s4] at hr104;unfold b62_3;refine nst ?_;refine go ?_;by_cases c105 : p57 < p25
       ·replace hr104:=ifP hr104
        refine go ?_;obtain ⟨x106,⟨_,_,_⟩,hr104⟩:=bI hr104;obtain ⟨x107,⟨_,_,_⟩,hr104⟩:=bI hr104;refine go ?_;rcases eqT (x106.1.1 = x107.1.1) with c108 | c108
        ·rcases eqT (x106.1.2 = x107.1.2) with c109 | c109
         ·replace hr104:=ifP hr104
          refine go ?_;exact fin hr104
         ·replace hr104:=ifN hr104
          refine go ?_;exact bk hr104
        ·replace hr104:=ifN hr104
         refine go ?_;exact bk hr104
       ·replace hr104:=ifN hr104
        refine go ?_;obtain ⟨r110,q110,rfl⟩:=ms hr104;refine go ?_;rintro rfl
        refine go ?_;unfold Lref09_Check_k4 at q110;refine go ?_;exact bk q110
      ·have c96N:=nrm c96
       replace hr95:=ifN hr95
       refine go ?_;obtain ⟨r111,q111,rfl⟩:=ms hr95;refine go ?_;rintro rfl
       refine go ?_;unfold Lref09_Check_k2 at q111;refine go ?_;refine lp 25 (fun (p43 : Int)=>⟨(und 1++([.ptr 1 0 0 0 4]++(und 64++([.one (.slice .no (List.map eapi_Input a0.2.1)),.one (.v (.int .i64 (a0.2.1.length : Int))),.one (.v (.int .i64 p43))]++(und 12)))) : List PV),([(1,⟨0,4,[[.v (.int .u32 a0.1),.slice .no (List.map eapi_Input a0.2.1),.slice .no (List.map eapi_Output a0.2.2.1),.v (.int .u32 a0.2.2.2)]],false,false⟩)] : Boxes)⟩) q111 ?_;rintro p43 x122r hr122
       simp only [Lref09_Check_s3] at hr122;unfold b62_4;refine nst ?_;refine go ?_;by_cases c123 : p43 < (a0.2.1.length : Int)
       ·have c123N:=nrm c123
        replace hr122:=ifP hr122
        refine go ?_;obtain ⟨_,⟨_,_,_⟩,hr122⟩:=bI hr122;refine go ?_;obtain ⟨y125,ehy125,hr122⟩:=bN hr122 G90_eq;by_cases c126 : y125 = true
        ·replace hr122:=ifPb hr122
         obtain ⟨_,hz127,hr122⟩:=bs hr122;obtain ⟨y128,ehy128,hz127⟩:=bN hz127 G63_eq;obtain rfl:=Option.some.inj hz127;refine go ?_;by_cases c129 : y128 = true
         ·replace hr122:=ifN hr122
          refine go ?_;exact bk hr122
         ·replace hr122:=ifP hr122
          refine go ?_;exact fin hr122
        ·replace hr122:=ifNb hr122
         obtain ⟨_,hz130,hr122⟩:=bs hr122;obtain rfl:=Option.some.inj hz130;refine go ?_
         replace hr122:=ifN hr122
         refine go ?_;exact bk hr122
       ·have c123N:=nrm c123
        replace hr122:=ifN hr122
        refine go ?_;obtain ⟨r131,q131,rfl⟩:=ms hr122;refine go ?_;rintro rfl
        refine go ?_;unfold Lref09_Check_k3 at q131;refine go ?_;exact fin q131
 ·replace hr:=ifP hr
  refine go ?_;exact fin hr
theorem w64 : Walk tt G [] (fun _=>[]) Tryz.f64 K64:=by
 refine .of [] false body64 Tryz.ntmps64 fun T hO hT a0 x hr=>⟨by simp,?_⟩
 simp only [tabAll] at hT; simp only at hr ⊢; unfold c64;unfold Lref36_money at hr;refine go ?_;by_cases c1 : 0≤a0
 ·refine go ?_
  exact fin hr
 ·refine go ?_
  exact fin hr
theorem w31 : Walk tt G [(32,K32.G),(62,K62.G),(63,K63.G),(64,K64.G)] (fun _=>[]) Tryz.f31 K31:=by
 refine .of [(2,⟨[0,3],[],[]⟩),(7,⟨[0,3,4],[],[]⟩)] false body31 Tryz.ntmps31 fun T hO hT a0 x hr=>⟨by simp,?_⟩
 simp only [tabAll] at hT; simp only at hr ⊢; unfold c31;unfold Lref36_sound at hr;refine go ?_;refine lp 2 (fun (p35 : Int)=>⟨([.one (.slice .no (List.map eapi_Entry a0))]++(und 2++([.one (.v (.int .i64 p35))]++(und 47))) : List PV),([] : Boxes)⟩) hr ?_;rintro p35 x102r hr102
 simp only [Lref36_sound_s1] at hr102;unfold b31_1;refine nst ?_;refine go ?_;by_cases c103 : p35 < (a0.length : Int)
 ·have c103N:=nrm c103
  replace hr102:=ifP hr102
  refine go ?_;obtain ⟨_,⟨_,hx104b,_⟩,hr102⟩:=bI hr102;obtain ⟨y105,ehy105,hr102⟩:=bN hr102 G62_eq;rcases eqT (y105 = 0) with c106 | c106
  ·replace hr102:=ifNb hr102
   obtain ⟨_,hz107,hr102⟩:=bs hr102;obtain ⟨y108,ehy108,hz107⟩:=bN hz107 G63_eq;obtain rfl:=Option.some.inj hz107;by_cases c109 : y108 = true
   ·replace hr102:=ifPb hr102
    obtain ⟨_,hz110,hr102⟩:=bs hr102;obtain rfl:=Option.some.inj hz110;refine go ?_
    replace hr102:=ifP hr102
    refine go ?_;exact fin hr102
   ·replace hr102:=ifNb hr102
    obtain ⟨_,hz111,hr102⟩:=bs hr102;obtain ⟨y112,ehy112,hz111⟩:=bN hz111 G64_eq;obtain rfl:=Option.some.inj hz111;refine go ?_;by_cases c113 : y112 = true
    ·replace hr102:=ifN hr102
     refine go ?_;refine lp 7 (fun (p66 : Int)=>⟨([.one (.slice .no (List.map eapi_Entry a0))]++(und 2++([.one (.v (.int .i64 p35)),.one (.v (.int .i64 p66))]++(und 46))) : List PV),([] : Boxes)⟩) hr102 ?_;rintro p66 x121r hr121
     simp only [Lref36_sound_s2] at hr121;unfold b31_2;refine nst ?_;refine go ?_;by_cases c122 : p66 < p35
     ·replace hr121:=ifP hr121
      refine go ?_;obtain ⟨_,⟨_,_,_⟩,hr121⟩:=bI hr121;obtain ⟨_,⟨_,hx124b,_⟩,hr121⟩:=bI hr121;obtain rfl:=Option.some.inj (hx104b.symm.trans hx124b);obtain ⟨y125,ehy125,hr121⟩:=bN hr121 G32_eq;refine go ?_;by_cases c126 : y125 = true
      ·replace hr121:=ifP hr121
       refine go ?_;exact fin hr121
      ·replace hr121:=ifN hr121
       refine go ?_;exact bk hr121
     ·replace hr121:=ifN hr121
      refine go ?_;obtain ⟨r127,q127,rfl⟩:=ms hr121;refine go ?_;rintro rfl
      refine go ?_;unfold Lref36_sound_k2 at q127;refine go ?_;exact bk q127
    ·replace hr102:=ifP hr102
     refine go ?_;exact fin hr102
  ·replace hr102:=ifPb hr102
   obtain ⟨_,hz128,hr102⟩:=bs hr102;obtain rfl:=Option.some.inj hz128
   replace hr102:=ifPb hr102
   obtain ⟨_,hz129,hr102⟩:=bs hr102;obtain rfl:=Option.some.inj hz129;refine go ?_
   replace hr102:=ifP hr102
   refine go ?_;exact fin hr102
 ·have c103N:=nrm c103
  replace hr102:=ifN hr102
  refine go ?_;obtain ⟨r130,q130,rfl⟩:=ms hr102;refine go ?_;rintro rfl
  refine go ?_;unfold Lref36_sound_k1 at q130;refine go ?_;exact fin q130
theorem w65 : Walk tt G [] (fun _=>[]) Tryz.f65 K65:=by
 refine .of [(2,⟨[1,3],[1],[]⟩)] false body65 Tryz.ntmps65 fun T hO hT a0 x hr=>⟨by simp,?_⟩
 simp only [tabAll] at hT; simp only at hr ⊢; unfold c65;unfold Lref36_Signals at hr;refine go ?_;refine lp 2 (fun (p4 : Int)=>⟨(und 1++([.ptr 1 0 0 0 4]++(und 1++([.one (.v (.int .i64 p4))]++(und 14)))) : List PV),([(1,⟨0,4,[[.v (.int .u32 a0.1),.slice .no (List.map eapi_Input a0.2.1),.slice .no (List.map eapi_Output a0.2.2.1),.v (.int .u32 a0.2.2.2)]],false,false⟩)] : Boxes)⟩) hr ?_;rintro p4 x12r hr12
 simp only [Lref36_Signals_s1] at hr12;unfold b65_1;refine nst ?_;refine go ?_;by_cases c13 : p4 < (a0.2.1.length : Int)
 ·have c13N:=nrm c13
  replace hr12:=ifP hr12
  refine go ?_;obtain ⟨x14,⟨_,_,_⟩,hr12⟩:=bI hr12;refine go ?_;by_cases c15 : x14.2.1 < 4294967294
  ·replace hr12:=ifP hr12
   refine go ?_;exact fin hr12
  ·replace hr12:=ifN hr12
   refine go ?_;exact bk hr12
 ·have c13N:=nrm c13
  replace hr12:=ifN hr12
  refine go ?_;obtain ⟨r16,q16,rfl⟩:=ms hr12;refine go ?_;rintro rfl
  refine go ?_;unfold Lref36_Signals_k1 at q16;refine go ?_;exact fin q16
theorem w66 : Walk tt G [(22,K22.G)] (fun _=>[]) Tryz.f66 K66:=by
 refine .of [(3,⟨[2,5,6],[2,5],[]⟩)] false body66 Tryz.ntmps66 fun T hO hT ⟨a0,a1⟩ x hr=>⟨by simp,?_⟩
 simp only [tabAll] at hT; simp only at hr ⊢; unfold c66;unfold Lref36_spends at hr;refine go ?_;obtain ⟨y8,ehy8,hr⟩:=bN hr G22_eq;refine go ?_;refine lp 3 (fun (p5 : Int)=>⟨(und 2++([.ptr 2 0 0 0 4]++(und 2++([.ptr 5 0 0 0 32,.one (.v (.int .i64 p5))]++(und 18)))) : List PV),([(2,⟨0,4,[[.v (.int .u32 a0.1),.slice .no (List.map eapi_Input a0.2.1),.slice .no (List.map eapi_Output a0.2.2.1),.v (.int .u32 a0.2.2.2)]],false,false⟩),(5,⟨0,32,[arC .u8 y8],false,false⟩)] : Boxes)⟩) hr ?_;rintro p5 x14r hr14
 simp only [Lref36_spends_s1] at hr14;unfold b66_1;refine nst ?_;refine go ?_;by_cases c15 : p5 < (a0.2.1.length : Int)
 ·have c15N:=nrm c15
  replace hr14:=ifP hr14
  refine go ?_;obtain ⟨x16,⟨_,_,_⟩,hr14⟩:=bI hr14;refine go ?_;rcases eqT (x16.1.1 = y8) with c17 | c17
  ·replace hr14:=ifP hr14
   refine go ?_;exact fin hr14
  ·replace hr14:=ifN hr14
   refine go ?_;exact bk hr14
 ·have c15N:=nrm c15
  replace hr14:=ifN hr14
  refine go ?_;obtain ⟨r18,q18,rfl⟩:=ms hr14;refine go ?_;rintro rfl
  refine go ?_;unfold Lref36_spends_k1 at q18;refine go ?_;exact fin q18
theorem w91 : Walk tt G [] (fun _=>[]) Tryz.f91 K91:=by
 refine .of [] false body91 Tryz.ntmps91 fun T hO hT ⟨a0,a1,a2⟩ x hr=>⟨by simp,?_⟩
 simp only [tabAll] at hT; simp only at hr ⊢; unfold c91;unfold Lref34_in at hr;refine go ?_;by_cases c1 : a1≤a0
 ·refine go ?_
  exact fin hr
 ·refine go ?_
  exact fin hr
theorem w67 : Walk tt G [(91,K91.G)] (fun _=>[]) Tryz.f67 K67:=by
 refine .of [] false body67 Tryz.ntmps67 fun T hO hT ⟨a0,a1⟩ x hr=>⟨by simp,?_⟩
 simp only [tabAll] at hT; simp only at hr ⊢; unfold c67;unfold Lref34_Fee at hr;refine go ?_;obtain ⟨y4,ehy4,hr⟩:=bN hr G91_eq;by_cases c5 : y4 = true
 ·replace hr:=ifNb hr
  obtain ⟨_,hz6,hr⟩:=bs hr;obtain ⟨y7,ehy7,hz6⟩:=bN hz6 G91_eq;obtain rfl:=Option.some.inj hz6;refine go ?_;by_cases c8 : y7 = true
  ·replace hr:=ifN hr
   refine go ?_;exact fin hr
  ·replace hr:=ifP hr
   refine go ?_;exact fin hr
 ·replace hr:=ifPb hr
  obtain ⟨_,hz9,hr⟩:=bs hr;obtain rfl:=Option.some.inj hz9;refine go ?_
  replace hr:=ifP hr
  refine go ?_;exact fin hr
theorem w68 : Walk tt G [(52,K52.G),(54,K54.G)] (fun _=>[]) Tryz.f68 K68:=by
 refine .of [] false body68 Tryz.ntmps68 fun T hO hT a0 x hr=>⟨by simp,?_⟩
 simp only [tabAll] at hT; simp only at hr ⊢; unfold c68;unfold Lref09_Weight at hr;refine go ?_;obtain ⟨y4,ehy4,hr⟩:=bN hr G52_eq;refine go ?_;by_cases c5 : y4 = true
 ·replace hr:=ifN hr
  refine go ?_;obtain ⟨_,ehy6,hr⟩:=bN hr G54_eq;obtain ⟨_,ehy7,hr⟩:=bN hr G54_eq;refine go ?_;exact fin hr
 ·replace hr:=ifP hr
  refine go ?_;exact fin hr
theorem w92 : Walk tt G [] (fun _=>[]) Tryz.f92 K92:=by
 refine .of [] false body92 Tryz.ntmps92 fun T hO hT ⟨a0,a1,a2⟩ x hr=>⟨by simp,?_⟩
 simp only [tabAll] at hT; simp only at hr ⊢; unfold c92;unfold Lref33_in at hr;refine go ?_;by_cases c1 : a1≤a0
 ·refine go ?_
  exact fin hr
 ·refine go ?_
  exact fin hr
theorem w69 : Walk tt G [(92,K92.G)] (fun _=>[]) Tryz.f69 K69:=by
 refine .of [] false body69 Tryz.ntmps69 fun T hO hT ⟨a0,a1⟩ x hr=>⟨by simp,?_⟩
 simp only [tabAll] at hT; simp only at hr ⊢; unfold c69;unfold Lref33_Rate at hr;refine go ?_;by_cases c4 : a0 < 0
 ·replace hr:=ifPb hr
  obtain ⟨_,hz5,hr⟩:=bs hr;obtain rfl:=Option.some.inj hz5;refine go ?_
  replace hr:=ifP hr
  refine go ?_;exact fin hr
 ·by_cases c6 : 2100000000000000 < a0
  ·replace hr:=ifPb hr
   obtain ⟨_,hz7,hr⟩:=bs hr;obtain rfl:=Option.some.inj hz7;refine go ?_
   replace hr:=ifP hr
   refine go ?_;exact fin hr
  ·replace hr:=ifNb hr
   obtain ⟨_,hz8,hr⟩:=bs hr;obtain ⟨y9,ehy9,hz8⟩:=bN hz8 G92_eq;obtain rfl:=Option.some.inj hz8;refine go ?_;by_cases c10 : y9 = true
   ·replace hr:=ifN hr
    refine go ?_;obtain ⟨_,hr⟩:=bC hr;refine go ?_;exact fin hr
   ·replace hr:=ifP hr
    refine go ?_;exact fin hr
theorem w33 : Walk tt G [(32,K32.G),(62,K62.G),(63,K63.G),(64,K64.G),(65,K65.G),(66,K66.G),(67,K67.G),(68,K68.G),(69,K69.G)] (fun _=>[]) Tryz.f33 K33:=by
 refine .of [(9,⟨[0,2,4,8],[4],[]⟩),(14,⟨[0,2,4,9],[4],[]⟩),(19,⟨[0,2,4,10],[4],[]⟩),(24,⟨[0,2,4,11],[4],[]⟩),(30,⟨[0,2,4,12,13],[4],[]⟩),(1000031,⟨[0,2,4,12,13],[4],[]⟩)] false body33 Tryz.ntmps33 fun T hO hT ⟨a0,a1,a2⟩ x hr=>⟨by simp,?_⟩
 simp only [tabAll] at hT; simp only at hr ⊢; unfold c33;unfold Lref36_Accept at hr;refine go ?_;obtain ⟨y74,ehy74,hr⟩:=bN hr G62_eq;refine go ?_;rcases eqT (y74 = 0) with c75 | c75
 ·replace hr:=ifN hr
  refine go ?_;obtain ⟨y76,ehy76,hr⟩:=bN hr G63_eq;refine go ?_;by_cases c77 : y76 = true
  ·replace hr:=ifP hr
   refine go ?_;exact fin hr
  ·replace hr:=ifN hr
   refine go ?_;obtain ⟨y78,ehy78,hr⟩:=bN hr G64_eq;refine go ?_;by_cases c79 : y78 = true
   ·replace hr:=ifN hr
    refine go ?_;refine lp 9 (fun (p9 : Int)=>⟨([.one (.slice .no (List.map eapi_Entry a0))]++(und 1++([.one (.v (.int .i64 a2))]++(und 1++([.ptr 4 0 0 0 4]++(und 3++([.one (.v (.int .i64 p9))]++(und 107))))))) : List PV),([(4,⟨0,4,[[.v (.int .u32 a1.1),.slice .no (List.map eapi_Input a1.2.1),.slice .no (List.map eapi_Output a1.2.2.1),.v (.int .u32 a1.2.2.2)]],false,false⟩)] : Boxes)⟩) hr ?_;rintro p9 x86r hr86
    simp only [Lref36_Accept_s1] at hr86;unfold b33_1;refine nst ?_;refine go ?_;by_cases c87 : p9 < (a0.length : Int)
    ·have c87N:=nrm c87
     replace hr86:=ifP hr86
     refine go ?_;obtain ⟨_,⟨_,_,_⟩,hr86⟩:=bI hr86;obtain ⟨y89,ehy89,hr86⟩:=bN hr86 G64_eq;refine go ?_;by_cases c90 : y89 = true
     ·replace hr86:=ifN hr86
      refine go ?_;exact bk hr86
     ·replace hr86:=ifP hr86
      refine go ?_;exact fin hr86
    ·have c87N:=nrm c87
     replace hr86:=ifN hr86
     refine go ?_;obtain ⟨r91,q91,rfl⟩:=ms hr86;refine go ?_;rintro rfl
     refine go ?_;unfold Lref36_Accept_k1 at q91;refine go ?_;refine lp 14 (fun (p17 : Int)=>⟨([.one (.slice .no (List.map eapi_Entry a0))]++(und 1++([.one (.v (.int .i64 a2))]++(und 1++([.ptr 4 0 0 0 4]++(und 4++([.one (.v (.int .i64 p17))]++(und 106))))))) : List PV),([(4,⟨0,4,[[.v (.int .u32 a1.1),.slice .no (List.map eapi_Input a1.2.1),.slice .no (List.map eapi_Output a1.2.2.1),.v (.int .u32 a1.2.2.2)]],false,false⟩)] : Boxes)⟩) q91 ?_;rintro p17 x98r hr98
     simp only [Lref36_Accept_s2] at hr98;unfold b33_2;refine nst ?_;refine go ?_;by_cases c99 : p17 < (a0.length : Int)
     ·have c99N:=nrm c99
      replace hr98:=ifP hr98
      refine go ?_;obtain ⟨_,⟨_,_,_⟩,hr98⟩:=bI hr98;obtain ⟨y101,ehy101,hr98⟩:=bN hr98 G32_eq;refine go ?_;by_cases c102 : y101 = true
      ·replace hr98:=ifN hr98
       refine go ?_;exact bk hr98
      ·replace hr98:=ifP hr98
       refine go ?_;exact fin hr98
     ·have c99N:=nrm c99
      replace hr98:=ifN hr98
      refine go ?_;obtain ⟨r103,q103,rfl⟩:=ms hr98;refine go ?_;rintro rfl
      refine go ?_;unfold Lref36_Accept_k2 at q103;refine go ?_;refine lp 19 (fun (p25 : Int)=>⟨([.one (.slice .no (List.map eapi_Entry a0))]++(und 1++([.one (.v (.int .i64 a2))]++(und 1++([.ptr 4 0 0 0 4]++(und 5++([.one (.v (.int .i64 p25))]++(und 105))))))) : List PV),([(4,⟨0,4,[[.v (.int .u32 a1.1),.slice .no (List.map eapi_Input a1.2.1),.slice .no (List.map eapi_Output a1.2.2.1),.v (.int .u32 a1.2.2.2)]],false,false⟩)] : Boxes)⟩) q103 ?_;rintro p25 x110r hr110
      simp only [Lref36_Accept_s3] at hr110;unfold b33_3;refine nst ?_;refine go ?_;by_cases c111 : p25 < (a0.length : Int)
      ·have c111N:=nrm c111
       replace hr110:=ifP hr110
       refine go ?_;obtain ⟨_,⟨_,_,_⟩,hr110⟩:=bI hr110;obtain ⟨y113,ehy113,hr110⟩:=bN hr110 G65_eq;refine go ?_;by_cases c114 : y113 = true
       ·replace hr110:=ifN hr110
        refine go ?_;exact bk hr110
       ·replace hr110:=ifP hr110
        refine go ?_;exact fin hr110
      ·have c111N:=nrm c111
       replace hr110:=ifN hr110
       refine go ?_;obtain ⟨r115,q115,rfl⟩:=ms hr110;refine go ?_;rintro rfl
       refine go ?_;unfold Lref36_Accept_k3 at q115;refine go ?_;refine lp 24 (fun (p33 : Int)=>⟨([.one (.slice .no (List.map eapi_Entry a0))]++(und 1++([.one (.v (.int .i64 a2))]++(und 1++([.ptr 4 0 0 0 4]++(und 6++([.one (.v (.int .i64 p33))]++(und 104))))))) : List PV),([(4,⟨0,4,[[.v (.int .u32 a1.1),.slice .no (List.map eapi_Input a1.2.1),.slice .no (List.map eapi_Output a1.2.2.1),.v (.int .u32 a1.2.2.2)]],false,false⟩)] : Boxes)⟩) q115 ?_;rintro p33 x122r hr122
       simp only [Lref36_Accept_s4] at hr122;unfold b33_4;refine nst ?_;refine go ?_;by_cases c123 : p33 < (a0.length : Int)
       ·have c123N:=nrm c123
        replace hr122:=ifP hr122
        refine go ?_;obtain ⟨_,⟨_,_,_⟩,hr122⟩:=bI hr122;obtain ⟨y125,ehy125,hr122⟩:=bN hr122 G66_eq;refine go ?_;by_cases c126 : y125 = true
        ·replace hr122:=ifP hr122
         refine go ?_;exact fin hr122
        ·replace hr122:=ifN hr122
         refine go ?_;exact bk hr122
       ·have c123N:=nrm c123
        replace hr122:=ifN hr122
        refine go ?_;obtain ⟨r127,q127,rfl⟩:=ms hr122;refine go ?_;rintro rfl
        refine go ?_;unfold Lref36_Accept_k4 at q127;obtain ⟨y128,hy128,q127⟩:=bs q127;have ehy128:=G68_eq hy128;simp only [K68,nf,nfs] at ehy128;obtain ⟨_,ehy129,q127⟩:=bN q127 G67_eq;refine go ?_;refine lp 30 (fun (⟨p52,p53⟩ : Int×Int)=>⟨([.one (.slice .no (List.map eapi_Entry a0))]++(und 1++([.one (.v (.int .i64 a2))]++(und 1++([.ptr 4 0 0 0 4]++(und 7++([.one (.v (.int .i64 p52)),.one (.v (.int .i64 p53))]++(und 102))))))) : List PV),([(4,⟨0,4,[[.v (.int .u32 a1.1),.slice .no (List.map eapi_Input a1.2.1),.slice .no (List.map eapi_Output a1.2.2.1),.v (.int .u32 a1.2.2.2)]],false,false⟩)] : Boxes)⟩) q127 ?_;rintro ⟨p52,p53⟩ x142r hr142
        simp only [Lref36_Accept_s5] at hr142;unfold b33_5;refine nst ?_;refine go ?_;by_cases c143 : p53 < (a0.length : Int)
        ·have c143N:=nrm c143
         replace hr142:=ifP hr142
         refine go ?_;obtain ⟨y144,hy144,hr142⟩:=bs hr142;obtain rfl : y128 = y144:=Option.some.inj (hy128.symm.trans hy144);have ehy144:=G68_eq hy144;simp only [K68,nf,nfs] at ehy144;obtain ⟨y145,ehy145,hr142⟩:=bN hr142 G69_eq;obtain ⟨x146,⟨_,_,_⟩,hr142⟩:=bI hr142;obtain ⟨_,ehy147,hr142⟩:=bN hr142 G68_eq;obtain ⟨y148,ehy148,hr142⟩:=bN hr142 G69_eq;refine go ?_;by_cases c149 : y145≤y148
         ·replace hr142:=ifP hr142
          refine go ?_;exact fin hr142
         ·replace hr142:=ifN hr142
          refine go ?_;refine ee_J hr142 (.normal) (fun (s : Int)=>match s with | p65=>(⟨([.one (.slice .no (List.map eapi_Entry a0))]++(und 1++([.one (.v (.int .i64 a2))]++(und 1++([.ptr 4 0 0 0 4]++(und 7++([.one (.v (.int .i64 p65)),.one (.v (.int .i64 p53))]++(und 102))))))) : List PV),([(4,⟨0,4,[[.v (.int .u32 a1.1),.slice .no (List.map eapi_Input a1.2.1),.slice .no (List.map eapi_Output a1.2.2.1),.v (.int .u32 a1.2.2.2)]],false,false⟩)] : Boxes)⟩ : ASt)) (fun (s : Int)=>match s with | p65=>Lref36_Accept_k6 p53 p65) ?_ ?_
          ·rintro p65 hk151
           change Lref36_Accept_k6 p53 p65 = _ at hk151
           refine go ?_;refine nst ?_;unfold Lref36_Accept_k6 at hk151;refine ee_regJ rfl (kq:=⟨[0,2,4,12,13],[4],[]⟩) rfl (by simp [joinSt, *]; rfl) (by simp [*] <;> rfl) ?_;exact bk hk151
          ·intro J151
           simp only [pq,reduceCtorEq] at J151;by_cases c152 : 0≤p52
           ·replace hr142:=ifP hr142
            refine go ?_;exact jn 1000031 (J151 (IntKind.i64.wrap (p52 - x146.2)) hr142)
           ·replace hr142:=ifN hr142
            refine go ?_;exact jn 1000031 (J151 p52 hr142)
        ·have c143N:=nrm c143
         replace hr142:=ifN hr142
         refine go ?_;obtain ⟨r153,q153,rfl⟩:=ms hr142;refine go ?_;rintro rfl
         refine go ?_;unfold Lref36_Accept_k5 at q153;refine go ?_;by_cases c154 : p52 < 0
         ·replace q153:=ifP q153
          refine go ?_;exact fin q153
         ·replace q153:=ifN q153
          refine go ?_;exact fin q153
   ·replace hr:=ifP hr
    refine go ?_;exact fin hr
 ·replace hr:=ifP hr
  refine go ?_;exact fin hr
theorem w34 : Walk tt G [(68,K68.G),(69,K69.G)] (fun _=>[]) Tryz.f34 K34:=by
 refine .of [] false body34 Tryz.ntmps34 fun T hO hT a0 x hr=>⟨by simp,?_⟩
 simp only [tabAll] at hT; simp only at hr ⊢; unfold c34;unfold Lref36_rate at hr;refine go ?_;obtain ⟨_,ehy3,hr⟩:=bN hr G68_eq;obtain ⟨_,ehy4,hr⟩:=bN hr G69_eq;refine go ?_;exact fin hr
end Go.Proofs.YtjdoijdjeapekaaGreatDoor
