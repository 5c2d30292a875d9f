import Derived.Test.YtjdoijdjeapekaaGreatDoorLfK
import Derived.Test.YtjdoijdjeapekaaGreatDoorCode
namespace Go.Proofs.YtjdoijdjeapekaaGreatDoor
open Go.RowKit
open Go.Av
open Go.Lc
set_option maxRecDepth 100000
set_option linter.unusedSimpArgs false
set_option linter.unusedVariables false
set_option maxHeartbeats 4000000
theorem w88 : Walk tt G [(101,K101.G)] (fun _=>[]) Tryz.f88 K88:=by
 refine .of [] false body88 Tryz.ntmps88 fun T hO hT a0 x hr=>⟨by simp,?_⟩
 simp only [tabAll] at hT; simp only at hr ⊢; unfold c88;unfold Lsha_Double at hr;refine go ?_;obtain ⟨_,ehy3,hr⟩:=bN hr G101_eq;refine go ?_;obtain ⟨_,ehy4,hr⟩:=bN hr G101_eq;refine go ?_;exact fin hr
theorem w55 : Walk tt G [(87,K87.G),(88,K88.G)] (fun _=>[]) Tryz.f55 K55:=by
 refine .of [] false body55 Tryz.ntmps55 fun T hO hT ⟨a0,a1⟩ x hr=>⟨by simp,?_⟩
 simp only [tabAll] at hT; simp only at hr ⊢; unfold c55;unfold Ltx_digest at hr;refine go ?_;obtain ⟨y3,ehy3,hr⟩:=bN hr G87_eq;refine go ?_;rcases eqT (y3.2 = 0) with c4 | c4
 ·replace hr:=ifN hr
  refine go ?_;obtain ⟨_,ehy5,hr⟩:=bN hr G88_eq;refine go ?_;exact fin hr
 ·replace hr:=ifP hr
  refine go ?_;exact fin hr
theorem w25 : Walk tt G [(55,K55.G)] (fun _=>[]) Tryz.f25 K25:=by
 refine .of [] false body25 Tryz.ntmps25 fun T hO hT a0 x hr=>⟨by simp,?_⟩
 simp only [tabAll] at hT; simp only at hr ⊢; unfold c25;unfold Ltx_ID at hr;refine go ?_;obtain ⟨_,ehy2,hr⟩:=bN hr G55_eq;refine go ?_;exact fin hr
theorem w47 : Walk tt G [] (fun _=>[]) Tryz.f47 K47:=by
 refine .of [] false body47 Tryz.ntmps47 fun T hO hT a0 x hr=>⟨by simp,?_⟩
 simp only [tabAll] at hT; simp only at hr ⊢; unfold c47;unfold Lreplace_money at hr;refine go ?_;by_cases c1 : 0≤a0
 ·refine go ?_
  exact fin hr
 ·refine go ?_
  exact fin hr
theorem w48 : Walk tt G [(47,K47.G)] (fun _=>[]) Tryz.f48 K48:=by
 refine .of [] false body48 Tryz.ntmps48 fun T hO hT a0 x hr=>⟨by simp,?_⟩
 simp only [tabAll] at hT; simp only at hr ⊢; unfold c48;unfold Lreplace_Accept_3 at hr;refine go ?_;obtain ⟨_,ehy2,hr⟩:=bN hr G47_eq;refine go ?_;exact fin hr
theorem w50 : Walk tt G [(16,K16.G)] (fun _=>[]) Tryz.f50 K50:=by
 refine .of [] false body50 Tryz.ntmps50 fun T hO hT a0 x hr=>⟨by simp,?_⟩
 simp only [tabAll] at hT; simp only at hr ⊢; unfold c50;unfold Lreplace_Accept_5 at hr;refine go ?_;obtain ⟨_,ehy2,hr⟩:=bN hr G16_eq;refine go ?_;exact fin hr
theorem w77 : Walk tt G [(74,K74.G),(93,K93.G)] (fun _=>[]) Tryz.f77 K77:=by
 refine .of [] false body77 Tryz.ntmps77 fun T hO hT a0 x hr=>⟨by simp,?_⟩
 simp only [tabAll] at hT; simp only at hr ⊢; unfold c77;unfold Ltx_Weight at hr;refine go ?_;obtain ⟨y4,ehy4,hr⟩:=bN hr G74_eq;refine go ?_;by_cases c5 : y4 = true
 ·replace hr:=ifN hr
  refine go ?_;obtain ⟨_,ehy6,hr⟩:=bN hr G93_eq;obtain ⟨_,ehy7,hr⟩:=bN hr G93_eq;refine go ?_;exact fin hr
 ·replace hr:=ifP hr
  refine go ?_;exact fin hr
theorem w78 : Walk tt G [] (fun _=>[]) Tryz.f78 K78:=by
 refine .of [] false body78 Tryz.ntmps78 fun T hO hT ⟨a0,a1⟩ x hr=>⟨by simp,?_⟩
 simp only [tabAll] at hT; simp only at hr ⊢; unfold c78;unfold Lbuild_Fee at hr;refine go ?_;by_cases c1 : a0 < 0
 ·refine go ?_
  replace hr:=ifP hr
  refine go ?_;exact fin hr
 ·by_cases c2 : 80000 < a0
  ·refine go ?_
   replace hr:=ifP hr
   refine go ?_;exact fin hr
  ·by_cases c3 : a1 < 0
   ·refine go ?_
    replace hr:=ifP hr
    refine go ?_;exact fin hr
   ·refine go ?_
    by_cases c4 : 1048576 < a1
    ·replace hr:=ifP hr
     refine go ?_;exact fin hr
    ·replace hr:=ifN hr
     refine go ?_;exact fin hr
theorem w79 : Walk tt G [] (fun _=>[]) Tryz.f79 K79:=by
 refine .of [] false body79 Tryz.ntmps79 fun T hO hT ⟨a0,a1⟩ x hr=>⟨by simp,?_⟩
 simp only [tabAll] at hT; simp only at hr ⊢; unfold c79;unfold Lfees_Rate at hr;refine go ?_;by_cases c2 : a0 < 0
 ·refine go ?_
  replace hr:=ifP hr
  refine go ?_;exact fin hr
 ·by_cases c3 : 2100000000000000 < a0
  ·refine go ?_
   replace hr:=ifP hr
   refine go ?_;exact fin hr
  ·by_cases c4 : a1 < 1
   ·refine go ?_
    replace hr:=ifP hr
    refine go ?_;exact fin hr
   ·refine go ?_
    by_cases c5 : 80000 < a1
    ·replace hr:=ifP hr
     refine go ?_;exact fin hr
    ·replace hr:=ifN hr
     refine go ?_;obtain ⟨_,hr⟩:=bC hr;refine go ?_;exact fin hr
theorem w61 : Walk tt G [(77,K77.G),(79,K79.G)] (fun _=>[]) Tryz.f61 K61:=by
 refine .of [] false body61 Tryz.ntmps61 fun T hO hT a0 x hr=>⟨by simp,?_⟩
 simp only [tabAll] at hT; simp only at hr ⊢; unfold c61;unfold Lreplace_rateOf at hr;refine go ?_;obtain ⟨_,ehy3,hr⟩:=bN hr G77_eq;obtain ⟨_,ehy4,hr⟩:=bN hr G79_eq;refine go ?_;exact fin hr
theorem w80_9 : Walk tt G [(61,K61.G)] (fun _=>[]) Tryz.f80 K80_9:=by
 refine .of [] false body80 Tryz.ntmps80 fun T hO hT ⟨a0,a1⟩ x hr=>⟨by simp,?_⟩
 simp only [tabAll] at hT; simp only at hr ⊢; unfold c80;unfold Lreplace_enough_1__r at hr;refine go ?_;obtain ⟨_,ehy2,hr⟩:=bN hr G61_eq;refine go ?_;exact fin hr
theorem w56_10 : Walk tt G [(80,K80_9.G)] (fun _=>[]) Tryz.f56 K56_10:=by
 refine .of [(2,⟨[0,1,7,8],[],[]⟩)] false body56 Tryz.ntmps56 fun T hO hT ⟨a0,a1⟩ x hr=>⟨by simp,?_⟩
 simp only [tabAll] at hT; simp only at hr ⊢; unfold c56;unfold Lslices_IndexFunc_of__api_Entry_api_Entry__replace_enough_1 at hr;refine go ?_;refine lp 2 (fun (p6 : Int)=>⟨([.one (.slice .no (List.map eapi_Entry a0)),.clo 80 [.ref ([.v (.int .i64 a1)])]]++(und 5++([.one (.v (.int .i64 (a0.length : Int))),.one (.v (.int .i64 p6))]++(und 10))) : List PV),([] : Boxes)⟩) hr ?_;rintro p6 x17r hr17
 simp only [Lslices_IndexFunc_of__api_Entry_api_Entry__replace_enough_1_s1] at hr17;unfold b56_1;refine nst ?_;refine go ?_;by_cases c18 : p6 < (a0.length : Int)
 ·have c18N:=nrm c18
  replace hr17:=ifP hr17
  refine go ?_;obtain ⟨_,⟨_,_,_⟩,hr17⟩:=bI hr17;obtain ⟨y20,ehy20,hr17⟩:=bN hr17 G80_9_eq;refine go ?_;by_cases c21 : y20 = true
  ·replace hr17:=ifP hr17
   refine go ?_;exact fin hr17
  ·replace hr17:=ifN hr17
   refine go ?_;exact bk hr17
 ·have c18N:=nrm c18
  replace hr17:=ifN hr17
  refine go ?_;obtain ⟨r22,q22,rfl⟩:=ms hr17;refine go ?_;rintro rfl
  refine go ?_;unfold Lslices_IndexFunc_of__api_Entry_api_Entry__replace_enough_1_k1 at q22;refine go ?_;exact fin q22
theorem w26_11 : Walk tt G [(56,K56_10.G)] (fun _=>[]) Tryz.f26 K26_11:=by
 refine .of [] false body26 Tryz.ntmps26 fun T hO hT ⟨a0,a1⟩ x hr=>⟨by simp,?_⟩
 simp only [tabAll] at hT; simp only at hr ⊢; unfold c26;unfold Lslices_ContainsFunc_of__api_Entry_api_Entry__replace_enough_1 at hr;refine go ?_;obtain ⟨_,ehy2,hr⟩:=bN hr G56_10_eq;refine go ?_;exact fin hr
theorem w51 : Walk tt G [(26,K26_11.G),(77,K77.G),(78,K78.G),(79,K79.G)] (fun _=>[]) Tryz.f51 K51:=by
 refine .of [(4,⟨[0,2,7,8,18,19,20],[],[]⟩)] false body51 Tryz.ntmps51 fun T hO hT ⟨a0,a1,a2⟩ x hr=>⟨by simp,?_⟩
 simp only [tabAll] at hT; simp only at hr ⊢; unfold c51;unfold Lreplace_enough at hr;refine go ?_;obtain ⟨y13,ehy13,hr⟩:=bN hr G77_eq;refine go ?_;obtain ⟨_,ehy14,hr⟩:=bN hr G78_eq;refine go ?_;refine lp 4 (fun (⟨p7,p8⟩ : Int×Int)=>⟨([.one (.slice .no (List.map eapi_Entry a0))]++(und 1++([.one (.v (.int .i64 a2))]++(und 4++([.one (.v (.int .i64 y13)),.one (.v (.int .i64 p7))]++(und 9++([.one (.slice .no (List.map eapi_Entry a0)),.one (.v (.int .i64 (a0.length : Int))),.one (.v (.int .i64 p8))]++(und 21))))))) : List PV),([] : Boxes)⟩) hr ?_;rintro ⟨p7,p8⟩ x20r hr20
 simp only [Lreplace_enough_s1] at hr20;unfold b51_1;refine nst ?_;refine go ?_;by_cases c21 : p8 < (a0.length : Int)
 ·have c21N:=nrm c21
  replace hr20:=ifP hr20
  refine go ?_;obtain ⟨x22,⟨_,_,_⟩,hr20⟩:=bI hr20;refine go ?_;by_cases c23 : p7 < x22.2
  ·replace hr20:=ifP hr20
   refine go ?_;exact fin hr20
  ·replace hr20:=ifN hr20
   refine go ?_;exact bk hr20
 ·have c21N:=nrm c21
  replace hr20:=ifN hr20
  refine go ?_;obtain ⟨r24,q24,rfl⟩:=ms hr20;refine go ?_;rintro rfl
  refine go ?_;unfold Lreplace_enough_k1 at q24;refine go ?_;by_cases c25 : p7 < 0
  ·replace q24:=ifP q24
   refine go ?_;exact fin q24
  ·replace q24:=ifN q24
   refine go ?_;obtain ⟨_,ehy26,q24⟩:=bN q24 G79_eq;refine go ?_;obtain ⟨_,ehy27,q24⟩:=bN q24 G26_11_eq;refine go ?_;exact fin q24
theorem w56_12 : Walk tt G [(48,K48.G)] (fun _=>[]) Tryz.f56 K56_12:=by
 refine .of [(2,⟨[0,1,7,8],[],[]⟩)] false body56 Tryz.ntmps56 fun T hO hT a0 x hr=>⟨by simp,?_⟩
 simp only [tabAll] at hT; simp only at hr ⊢; unfold c56;unfold Lslices_IndexFunc_of__api_Entry_api_Entry__replace_Accept_3 at hr;refine go ?_;refine lp 2 (fun (p6 : Int)=>⟨([.one (.slice .no (List.map eapi_Entry a0)),.fn 48]++(und 5++([.one (.v (.int .i64 (a0.length : Int))),.one (.v (.int .i64 p6))]++(und 10))) : List PV),([] : Boxes)⟩) hr ?_;rintro p6 x17r hr17
 simp only [Lslices_IndexFunc_of__api_Entry_api_Entry__replace_Accept_3_s1] at hr17;unfold b56_1;refine nst ?_;refine go ?_;by_cases c18 : p6 < (a0.length : Int)
 ·have c18N:=nrm c18
  replace hr17:=ifP hr17
  refine go ?_;obtain ⟨_,⟨_,_,_⟩,hr17⟩:=bI hr17;obtain ⟨y20,ehy20,hr17⟩:=bN hr17 G48_eq;refine go ?_;by_cases c21 : y20 = true
  ·replace hr17:=ifP hr17
   refine go ?_;exact fin hr17
  ·replace hr17:=ifN hr17
   refine go ?_;exact bk hr17
 ·have c18N:=nrm c18
  replace hr17:=ifN hr17
  refine go ?_;obtain ⟨r22,q22,rfl⟩:=ms hr17;refine go ?_;rintro rfl
  refine go ?_;unfold Lslices_IndexFunc_of__api_Entry_api_Entry__replace_Accept_3_k1 at q22;refine go ?_;exact fin q22
theorem w26_13 : Walk tt G [(56,K56_12.G)] (fun _=>[]) Tryz.f26 K26_13:=by
 refine .of [] false body26 Tryz.ntmps26 fun T hO hT a0 x hr=>⟨by simp,?_⟩
 simp only [tabAll] at hT; simp only at hr ⊢; unfold c26;unfold Lslices_ContainsFunc_of__api_Entry_api_Entry__replace_Accept_3 at hr;refine go ?_;obtain ⟨_,ehy2,hr⟩:=bN hr G56_12_eq;refine go ?_;exact fin hr
theorem w43_14 : Walk tt G [(26,K26_13.G)] (fun _=>[]) Tryz.f43 K43_14:=by
 refine .of [] false body43 Tryz.ntmps43 fun T hO hT a0 x hr=>⟨by simp,?_⟩
 simp only [tabAll] at hT; simp only at hr ⊢; unfold c43;unfold Lreplace_Accept_1__replace_Accept_3_p at hr;refine go ?_;obtain ⟨_,ehy2,hr⟩:=bN hr G26_13_eq;refine go ?_;exact fin hr
theorem w49_15 : Walk tt G [(17,K17.G)] (fun _=>[]) Tryz.f49 K49_15:=by
 refine .of [] false body49 Tryz.ntmps49 fun T hO hT ⟨a0,a1⟩ x hr=>⟨by simp,?_⟩
 simp only [tabAll] at hT; simp only at hr ⊢; unfold c49;unfold Lreplace_Accept_4__r at hr;refine go ?_;obtain ⟨_,ehy2,hr⟩:=bN hr G17_eq;refine go ?_;exact fin hr
theorem w56_16 : Walk tt G [(49,K49_15.G)] (fun _=>[]) Tryz.f56 K56_16:=by
 refine .of [(2,⟨[0,1,7,8],[],[]⟩)] false body56 Tryz.ntmps56 fun T hO hT ⟨a0,a1⟩ x hr=>⟨by simp,?_⟩
 simp only [tabAll] at hT; simp only at hr ⊢; unfold c56;unfold Lslices_IndexFunc_of__api_Entry_api_Entry__replace_Accept_4 at hr;refine go ?_;refine lp 2 (fun (p6 : Int)=>⟨([.one (.slice .no (List.map eapi_Entry a0)),.clo 49 [.ref ([.v (.int .u32 a1.1),.slice .no (List.map eapi_Input a1.2.1),.slice .no (List.map eapi_Output a1.2.2.1),.v (.int .u32 a1.2.2.2)])]]++(und 5++([.one (.v (.int .i64 (a0.length : Int))),.one (.v (.int .i64 p6))]++(und 10))) : List PV),([] : Boxes)⟩) hr ?_;rintro p6 x17r hr17
 simp only [Lslices_IndexFunc_of__api_Entry_api_Entry__replace_Accept_4_s1] at hr17;unfold b56_1;refine nst ?_;refine go ?_;by_cases c18 : p6 < (a0.length : Int)
 ·have c18N:=nrm c18
  replace hr17:=ifP hr17
  refine go ?_;obtain ⟨_,⟨_,_,_⟩,hr17⟩:=bI hr17;obtain ⟨y20,ehy20,hr17⟩:=bN hr17 G49_15_eq;refine go ?_;by_cases c21 : y20 = true
  ·replace hr17:=ifP hr17
   refine go ?_;exact fin hr17
  ·replace hr17:=ifN hr17
   refine go ?_;exact bk hr17
 ·have c18N:=nrm c18
  replace hr17:=ifN hr17
  refine go ?_;obtain ⟨r22,q22,rfl⟩:=ms hr17;refine go ?_;rintro rfl
  refine go ?_;unfold Lslices_IndexFunc_of__api_Entry_api_Entry__replace_Accept_4_k1 at q22;refine go ?_;exact fin q22
theorem w26_17 : Walk tt G [(56,K56_16.G)] (fun _=>[]) Tryz.f26 K26_17:=by
 refine .of [] false body26 Tryz.ntmps26 fun T hO hT ⟨a0,a1⟩ x hr=>⟨by simp,?_⟩
 simp only [tabAll] at hT; simp only at hr ⊢; unfold c26;unfold Lslices_ContainsFunc_of__api_Entry_api_Entry__replace_Accept_4 at hr;refine go ?_;obtain ⟨_,ehy2,hr⟩:=bN hr G56_16_eq;refine go ?_;exact fin hr
theorem w43_18 : Walk tt G [(26,K26_17.G)] (fun _=>[]) Tryz.f43 K43_18:=by
 refine .of [] false body43 Tryz.ntmps43 fun T hO hT ⟨a0,a1⟩ x hr=>⟨by simp,?_⟩
 simp only [tabAll] at hT; simp only at hr ⊢; unfold c43;unfold Lreplace_Accept_1__replace_Accept_4_p at hr;refine go ?_;obtain ⟨_,ehy2,hr⟩:=bN hr G26_17_eq;refine go ?_;exact fin hr
theorem w56_19 : Walk tt G [(50,K50.G)] (fun _=>[]) Tryz.f56 K56_19:=by
 refine .of [(2,⟨[0,1,7,8],[],[]⟩)] false body56 Tryz.ntmps56 fun T hO hT a0 x hr=>⟨by simp,?_⟩
 simp only [tabAll] at hT; simp only at hr ⊢; unfold c56;unfold Lslices_IndexFunc_of__api_Entry_api_Entry__replace_Accept_5 at hr;refine go ?_;refine lp 2 (fun (p6 : Int)=>⟨([.one (.slice .no (List.map eapi_Entry a0)),.fn 50]++(und 5++([.one (.v (.int .i64 (a0.length : Int))),.one (.v (.int .i64 p6))]++(und 10))) : List PV),([] : Boxes)⟩) hr ?_;rintro p6 x17r hr17
 simp only [Lslices_IndexFunc_of__api_Entry_api_Entry__replace_Accept_5_s1] at hr17;unfold b56_1;refine nst ?_;refine go ?_;by_cases c18 : p6 < (a0.length : Int)
 ·have c18N:=nrm c18
  replace hr17:=ifP hr17
  refine go ?_;obtain ⟨_,⟨_,_,_⟩,hr17⟩:=bI hr17;obtain ⟨y20,ehy20,hr17⟩:=bN hr17 G50_eq;refine go ?_;by_cases c21 : y20 = true
  ·replace hr17:=ifP hr17
   refine go ?_;exact fin hr17
  ·replace hr17:=ifN hr17
   refine go ?_;exact bk hr17
 ·have c18N:=nrm c18
  replace hr17:=ifN hr17
  refine go ?_;obtain ⟨r22,q22,rfl⟩:=ms hr17;refine go ?_;rintro rfl
  refine go ?_;unfold Lslices_IndexFunc_of__api_Entry_api_Entry__replace_Accept_5_k1 at q22;refine go ?_;exact fin q22
theorem w26_20 : Walk tt G [(56,K56_19.G)] (fun _=>[]) Tryz.f26 K26_20:=by
 refine .of [] false body26 Tryz.ntmps26 fun T hO hT a0 x hr=>⟨by simp,?_⟩
 simp only [tabAll] at hT; simp only at hr ⊢; unfold c26;unfold Lslices_ContainsFunc_of__api_Entry_api_Entry__replace_Accept_5 at hr;refine go ?_;obtain ⟨_,ehy2,hr⟩:=bN hr G56_19_eq;refine go ?_;exact fin hr
theorem w43_21 : Walk tt G [(26,K26_20.G)] (fun _=>[]) Tryz.f43 K43_21:=by
 refine .of [] false body43 Tryz.ntmps43 fun T hO hT a0 x hr=>⟨by simp,?_⟩
 simp only [tabAll] at hT; simp only at hr ⊢; unfold c43;unfold Lreplace_Accept_1__replace_Accept_5_p at hr;refine go ?_;obtain ⟨_,ehy2,hr⟩:=bN hr G26_20_eq;refine go ?_;exact fin hr
theorem w45_22 : Walk tt G [] (fun _=>[]) Tryz.f45 K45_22:=by
 refine .of [] false body45 Tryz.ntmps45 fun T hO hT ⟨a0,a1⟩ x hr=>⟨by simp,?_⟩
 simp only [tabAll] at hT; simp only at hr ⊢; unfold c45;unfold Lreplace_Accept_2_1__r at hr;refine go ?_;exact fin hr
theorem w73_23 : Walk tt G [(45,K45_22.G)] (fun _=>[]) Tryz.f73 K73_23:=by
 refine .of [(2,⟨[0,1,7,8],[],[]⟩)] false body73 Tryz.ntmps73 fun T hO hT ⟨a0,a1⟩ x hr=>⟨by simp,?_⟩
 simp only [tabAll] at hT; simp only at hr ⊢; unfold c73;unfold Lslices_IndexFunc_of__api_Input_api_Input__replace_Accept_2_1 at hr;refine go ?_;refine lp 2 (fun (p6 : Int)=>⟨([.one (.slice .no (List.map eapi_Input a0)),.clo 45 [.ref (arC .u8 a1)]]++(und 5++([.one (.v (.int .i64 (a0.length : Int))),.one (.v (.int .i64 p6))]++(und 10))) : List PV),([] : Boxes)⟩) hr ?_;rintro p6 x17r hr17
 simp only [Lslices_IndexFunc_of__api_Input_api_Input__replace_Accept_2_1_s1] at hr17;unfold b73_1;refine nst ?_;refine go ?_;by_cases c18 : p6 < (a0.length : Int)
 ·have c18N:=nrm c18
  replace hr17:=ifP hr17
  refine go ?_;obtain ⟨_,⟨_,_,_⟩,hr17⟩:=bI hr17;obtain ⟨y20,ehy20,hr17⟩:=bN hr17 G45_22_eq;refine go ?_;by_cases c21 : y20 = true
  ·replace hr17:=ifP hr17
   refine go ?_;exact fin hr17
  ·replace hr17:=ifN hr17
   refine go ?_;exact bk hr17
 ·have c18N:=nrm c18
  replace hr17:=ifN hr17
  refine go ?_;obtain ⟨r22,q22,rfl⟩:=ms hr17;refine go ?_;rintro rfl
  refine go ?_;unfold Lslices_IndexFunc_of__api_Input_api_Input__replace_Accept_2_1_k1 at q22;refine go ?_;exact fin q22
theorem w38_24 : Walk tt G [(73,K73_23.G)] (fun _=>[]) Tryz.f38 K38_24:=by
 refine .of [] false body38 Tryz.ntmps38 fun T hO hT ⟨a0,a1⟩ x hr=>⟨by simp,?_⟩
 simp only [tabAll] at hT; simp only at hr ⊢; unfold c38;unfold Lslices_ContainsFunc_of__api_Input_api_Input__replace_Accept_2_1 at hr;refine go ?_;obtain ⟨_,ehy2,hr⟩:=bN hr G73_23_eq;refine go ?_;exact fin hr
theorem w44_25 : Walk tt G [(25,K25.G),(38,K38_24.G)] (fun _=>[]) Tryz.f44 K44_25:=by
 refine .of [] false body44 Tryz.ntmps44 fun T hO hT ⟨a0,a1⟩ x hr=>⟨by simp,?_⟩
 simp only [tabAll] at hT; simp only at hr ⊢; unfold c44;unfold Lreplace_Accept_2__r at hr;refine go ?_;obtain ⟨_,ehy3,hr⟩:=bN hr G25_eq;refine go ?_;obtain ⟨_,ehy4,hr⟩:=bN hr G38_24_eq;refine go ?_;exact fin hr
theorem w56_26 : Walk tt G [(44,K44_25.G)] (fun _=>[]) Tryz.f56 K56_26:=by
 refine .of [(2,⟨[0,1,7,8],[],[]⟩)] false body56 Tryz.ntmps56 fun T hO hT ⟨a0,a1⟩ x hr=>⟨by simp,?_⟩
 simp only [tabAll] at hT; simp only at hr ⊢; unfold c56;unfold Lslices_IndexFunc_of__api_Entry_api_Entry__replace_Accept_2 at hr;refine go ?_;refine lp 2 (fun (p6 : Int)=>⟨([.one (.slice .no (List.map eapi_Entry a0)),.clo 44 [.ref ([.v (.int .u32 a1.1),.slice .no (List.map eapi_Input a1.2.1),.slice .no (List.map eapi_Output a1.2.2.1),.v (.int .u32 a1.2.2.2)])]]++(und 5++([.one (.v (.int .i64 (a0.length : Int))),.one (.v (.int .i64 p6))]++(und 10))) : List PV),([] : Boxes)⟩) hr ?_;rintro p6 x17r hr17
 simp only [Lslices_IndexFunc_of__api_Entry_api_Entry__replace_Accept_2_s1] at hr17;unfold b56_1;refine nst ?_;refine go ?_;by_cases c18 : p6 < (a0.length : Int)
 ·have c18N:=nrm c18
  replace hr17:=ifP hr17
  refine go ?_;obtain ⟨_,⟨_,_,_⟩,hr17⟩:=bI hr17;obtain ⟨y20,ehy20,hr17⟩:=bN hr17 G44_25_eq;refine go ?_;by_cases c21 : y20 = true
  ·replace hr17:=ifP hr17
   refine go ?_;exact fin hr17
  ·replace hr17:=ifN hr17
   refine go ?_;exact bk hr17
 ·have c18N:=nrm c18
  replace hr17:=ifN hr17
  refine go ?_;obtain ⟨r22,q22,rfl⟩:=ms hr17;refine go ?_;rintro rfl
  refine go ?_;unfold Lslices_IndexFunc_of__api_Entry_api_Entry__replace_Accept_2_k1 at q22;refine go ?_;exact fin q22
theorem w26_27 : Walk tt G [(56,K56_26.G)] (fun _=>[]) Tryz.f26 K26_27:=by
 refine .of [] false body26 Tryz.ntmps26 fun T hO hT ⟨a0,a1⟩ x hr=>⟨by simp,?_⟩
 simp only [tabAll] at hT; simp only at hr ⊢; unfold c26;unfold Lslices_ContainsFunc_of__api_Entry_api_Entry__replace_Accept_2 at hr;refine go ?_;obtain ⟨_,ehy2,hr⟩:=bN hr G56_26_eq;refine go ?_;exact fin hr
theorem w43_28 : Walk tt G [(26,K26_27.G)] (fun _=>[]) Tryz.f43 K43_28:=by
 refine .of [] false body43 Tryz.ntmps43 fun T hO hT ⟨a0,a1⟩ x hr=>⟨by simp,?_⟩
 simp only [tabAll] at hT; simp only at hr ⊢; unfold c43;unfold Lreplace_Accept_1__replace_Accept_2_p at hr;refine go ?_;obtain ⟨_,ehy2,hr⟩:=bN hr G26_27_eq;refine go ?_;exact fin hr
theorem w18 : Walk tt G [(42,K42.G),(43,(gor K43_28.G (gor K43_18.G (gor K43_14.G K43_21.G)))),(46,K46.G),(47,K47.G),(51,K51.G)] (fun _=>[]) Tryz.f18 K18:=by
 refine .of [] false body18 Tryz.ntmps18 fun T hO hT ⟨a0,a1,a2⟩ x hr=>⟨by simp,?_⟩
 simp only [tabAll] at hT; simp only at hr ⊢; unfold c18;unfold Lreplace_Accept at hr;refine go ?_;obtain ⟨y10,ehy10,hr⟩:=bN hr G42_eq;refine go ?_;rcases eqT (y10 = 0) with c11 | c11
 ·replace hr:=ifN hr
  refine go ?_;obtain ⟨y12,ehy12,hr⟩:=bN hr G46_eq;refine go ?_;by_cases c13 : y12 = true
  ·replace hr:=ifP hr
   refine go ?_;exact fin hr
  ·replace hr:=ifN hr
   refine go ?_;obtain ⟨y14,ehy14,hr⟩:=bN hr G47_eq;by_cases c15 : y14 = true
   ·replace hr:=ifNb hr
    obtain ⟨_,hz16,hr⟩:=bs hr;obtain ⟨y17,hy17,hz16⟩:=bs hz16;have ehy17:=gor_r (g:=K43_28.G) (Con.none (by rintro a h; simp [*] at h)) (gor_r (g:=K43_18.G) (Con.none (by rintro a h; simp [*] at h)) (gor_l (h:=K43_21.G) (G43_14_eq hy17)));simp only [K43_14,nf,nfs] at ehy17;obtain rfl:=Option.some.inj hz16;refine go ?_;by_cases c18 : y17 = true
    ·replace hr:=ifP hr
     refine go ?_;exact fin hr
    ·replace hr:=ifN hr
     refine go ?_;obtain ⟨y19,hy19,hr⟩:=bs hr;have ehy19:=gor_r (g:=K43_28.G) (Con.none (by rintro a h; simp [*] at h)) (gor_l (h:=(gor K43_14.G K43_21.G)) (G43_18_eq hy19));simp only [K43_18,nf,nfs] at ehy19;refine go ?_;by_cases c20 : y19 = true
     ·replace hr:=ifP hr
      refine go ?_;exact fin hr
     ·replace hr:=ifN hr
      refine go ?_;obtain ⟨y21,hy21,hr⟩:=bs hr;have ehy21:=gor_r (g:=K43_28.G) (Con.none (by rintro a h; simp [*] at h)) (gor_r (g:=K43_18.G) (Con.none (by rintro a h; simp [*] at h)) (gor_r (g:=K43_14.G) (Con.none (by rintro a h; simp [*] at h)) (G43_21_eq hy21)));simp only [K43_21,nf,nfs] at ehy21;refine go ?_;by_cases c22 : y21 = true
      ·replace hr:=ifP hr
       refine go ?_;exact fin hr
      ·replace hr:=ifN hr
       refine go ?_;obtain ⟨y23,hy23,hr⟩:=bs hr;have ehy23:=gor_l (h:=(gor K43_18.G (gor K43_14.G K43_21.G))) (G43_28_eq hy23);simp only [K43_28,nf,nfs] at ehy23;refine go ?_;by_cases c24 : y23 = true
       ·replace hr:=ifP hr
        refine go ?_;exact fin hr
       ·replace hr:=ifN hr
        refine go ?_;obtain ⟨y25,ehy25,hr⟩:=bN hr G51_eq;refine go ?_;by_cases c26 : y25 = true
        ·replace hr:=ifN hr
         refine go ?_;exact fin hr
        ·replace hr:=ifP hr
         refine go ?_;exact fin hr
   ·replace hr:=ifPb hr
    obtain ⟨_,hz27,hr⟩:=bs hr;obtain rfl:=Option.some.inj hz27;refine go ?_
    replace hr:=ifP hr
    refine go ?_;exact fin hr
 ·replace hr:=ifP hr
  refine go ?_;exact fin hr
theorem w4 : Walk tt G [(16,K16.G),(17,K17.G),(18,K18.G)] (fun _=>[]) Tryz.f4 K4:=by
 refine .of [] false body4 Tryz.ntmps4 fun T hO hT _ x hr=>⟨by simp,?_⟩
 simp only [tabAll] at hT; simp only at hr ⊢; unfold c4;unfold Llaw36_sane at hr;refine go ?_;obtain ⟨y8,ehy8,hr⟩:=bN hr G16_eq;by_cases c9 : y8 = true
 ·replace hr:=ifNb hr
  obtain ⟨_,hz10,hr⟩:=bs hr;obtain rfl:=Option.some.inj hz10
  replace hr:=ifNb hr
  obtain ⟨_,hz11,hr⟩:=bs hr;obtain rfl:=Option.some.inj hz11
  replace hr:=ifNb hr
  obtain ⟨_,hz12,hr⟩:=bs hr;obtain rfl:=Option.some.inj hz12;refine go ?_;exact fin hr
 ·replace hr:=ifPb hr
  obtain ⟨_,hz13,hr⟩:=bs hr;obtain ⟨y14,ehy14,hz13⟩:=bN hz13 G16_eq;obtain rfl:=Option.some.inj hz13;by_cases c15 : y14 = true
  ·replace hr:=ifPb hr
   obtain ⟨_,hz16,hr⟩:=bs hr;obtain ⟨y17,ehy17,hz16⟩:=bN hz16 G17_eq;obtain rfl:=Option.some.inj hz16;by_cases c18 : y17 = true
   ·replace hr:=ifPb hr
    obtain ⟨_,hz19,hr⟩:=bs hr;obtain ⟨_,ehy20,hz19⟩:=bN hz19 G18_eq;obtain rfl:=Option.some.inj hz19;refine go ?_;exact fin hr
   ·replace hr:=ifNb hr
    obtain ⟨_,hz21,hr⟩:=bs hr;obtain rfl:=Option.some.inj hz21;refine go ?_;exact fin hr
  ·replace hr:=ifNb hr
   obtain ⟨_,hz22,hr⟩:=bs hr;obtain rfl:=Option.some.inj hz22
   replace hr:=ifNb hr
   obtain ⟨_,hz23,hr⟩:=bs hr;obtain rfl:=Option.some.inj hz23;refine go ?_;exact fin hr
theorem w5 : Walk tt G [] (fun _=>[]) Tryz.f5 K5:=by
 refine .of [] true body5 Tryz.ntmps5 fun T hO hT a0 x hr=>⟨by simp,?_⟩
 simp only [tabAll] at hT; simp only at hr ⊢; unfold c5;unfold Lmill_New at hr;refine go ?_;exact fin hr
theorem w10 : Walk tt G [] (fun _=>[]) Tryz.f10 K10:=by
 refine .of [(1000004,⟨[5],[],[]⟩)] false body10 Tryz.ntmps10 fun T hO hT ⟨a0,a1⟩ x hr=>⟨by simp,?_⟩
 simp only [tabAll] at hT; simp only at hr ⊢; unfold c10;unfold Lmill_Mod at hr;refine go ?_;obtain ⟨_,hr⟩:=bC hr;refine go ?_;refine ee_seq_J hr (fun (s : Int)=>match s with | p2=>(⟨(und 5++([.one (.v (.int .i64 p2))]++(und 9)) : List PV),([] : Boxes)⟩ : ASt)) (fun (s : Int)=>match s with | p2=>Lmill_Mod_k1 p2) ?_ ?_
 ·rintro p2 hk5
  change Lmill_Mod_k1 p2 = _ at hk5
  refine nst ?_;unfold Lmill_Mod_k1 at hk5;refine ee_seq_regJ rfl (kq:=⟨[5],[],[]⟩) rfl (by simp [joinSt, *]; rfl) (by simp [*]; rfl) ?_;refine go ?_;exact fin hk5
 ·intro J5
  by_cases c6 : (a0).tmod a1 < 0
  ·replace hr:=ifP hr
   refine go ?_;exact jn 1000004 (J5 (IntKind.i64.wrap (((a0).tmod a1) + a1)) hr)
  ·replace hr:=ifN hr
   refine go ?_;exact jn 1000004 (J5 ((a0).tmod a1) hr)
theorem w23 : Walk tt G [] (fun _=>[]) Tryz.f23 K23:=by
 refine .of [] false body23 Tryz.ntmps23 fun T hO hT a0 x hr=>⟨by simp,?_⟩
 simp only [tabAll] at hT; simp only at hr ⊢; unfold c23;unfold Lmill_Deck_Left at hr;refine go ?_;exact fin hr
theorem w9 : Walk tt G [(10,K10.G),(23,K23.G)] (fun _=>[]) Tryz.f9 K9:=by
 refine .of [] false body9 Tryz.ntmps9 fun T hO hT ⟨a0,a1⟩ x hr=>⟨by simp,?_⟩
 simp only [tabAll] at hT; simp only at hr ⊢; unfold c9;unfold Lmill_Deck_Next at hr;refine go ?_;obtain ⟨y4,ehy4,hr⟩:=bN hr G23_eq;refine go ?_;by_cases c5 : y4.1 = true
 ·replace hr:=ifN hr
  refine go ?_;obtain ⟨_,⟨_,_,_⟩,hr⟩:=bI hr;obtain ⟨_,ehy7,hr⟩:=bN hr G10_eq;refine go ?_;exact fin hr
 ·replace hr:=ifP hr
  refine go ?_;exact fin hr
theorem w19 : Walk tt G [(9,K9.G)] (fun _=>[]) Tryz.f19 K19:=by
 refine .of [] false body19 Tryz.ntmps19 fun T hO hT ⟨a0,a1,a2⟩ x hr=>⟨by simp,?_⟩
 simp only [tabAll] at hT; simp only at hr ⊢; unfold c19;unfold Lmill_Deck_Range at hr;refine go ?_;obtain ⟨_,ehy2,hr⟩:=bN hr G9_eq;refine go ?_;exact fin hr
theorem w20 : Walk tt G [(9,K9.G)] (fun _=>[]) Tryz.f20 K20:=by
 refine .of [] false body20 Tryz.ntmps20 fun T hO hT a0 x hr=>⟨by simp,?_⟩
 simp only [tabAll] at hT; simp only at hr ⊢; unfold c20;unfold Lmill_Hash at hr;refine go ?_;obtain ⟨_,ehy3,hr⟩:=bN hr G9_eq;obtain ⟨_,ehy4,hr⟩:=bN hr G9_eq;refine go ?_;exact fin hr
theorem w21 : Walk tt G [] (fun _=>[]) Tryz.f21 K21:=by
 refine .of [] true body21 Tryz.ntmps21 fun T hO hT a0 x hr=>⟨by simp,?_⟩
 simp only [tabAll] at hT; simp only at hr ⊢; unfold c21;unfold Lmade_Script at hr;refine goR ?_;exact fin hr
theorem w7 : Walk tt G [(9,K9.G),(19,K19.G),(20,K20.G),(21,K21.G)] (fun _=>[]) Tryz.f7 K7:=by
 refine .of [(3,⟨[0,2,3,4],[2,3,45,1000000],[(3,some 1,45,35)]⟩),(10,⟨[0,2,3,6],[2,3,45,63,1000000],[(3,some 2,63,2)]⟩)] true body7 Tryz.ntmps7 fun T hO hT a0 x hr=>⟨by simp,?_⟩
 simp only [tabAll] at hT; simp only at hr ⊢; unfold c7;unfold Lmill_Tx at hr;refine goR ?_;obtain ⟨y72,ehy72,hr⟩:=bN hr G9_eq;obtain ⟨y73,ehy73,hr⟩:=bN hr G9_eq;refine goR ?_;obtain ⟨_,ehy74,hr⟩:=bN hr G19_eq;refine goR ?_;refine lp 3 (fun (⟨p26,p27,p28⟩ : Int×Tlightclientmill_Deck×(List Tapi_Input))=>⟨([.ptr 1000000 0 0 0 2]++(und 1++([.ptr 2 0 0 0 4,.ptr 3 0 0 0 4,.one (.v (.int .i64 p26))]++(und 61))) : List PV),([(2,⟨0,4,[[.v (.int .u32 0),.slice .nil [],.slice .nil [],.v (.int .u32 0)]],false,false⟩),(3,⟨0,4,[[.v (.int .u32 (IntKind.u32.wrap (y72.1))),.ms 45 0 0 (p28.length) 35,.slice .nil [],.v (.int .u32 (IntKind.u32.wrap (y73.1)))]],false,false⟩),(45,⟨0,35,List.map eapi_Input p28,false,true⟩),(1000000,⟨0,2,[[.slice .no (intsR .i64 p27.1),.v (.int .i64 p27.2)]],false,false⟩)] : Boxes)⟩) hr ?_;rintro ⟨p26,p27,p28⟩ x90r hr90
 simp only [Lmill_Tx_s1] at hr90;unfold b7_1;refine nst ?_;refine goR ?_;by_cases c91 : 0 < p26
 ·replace hr90:=ifP hr90
  refine goR ?_;obtain ⟨_,ehy92,hr90⟩:=bN hr90 G20_eq;obtain ⟨_,ehy93,hr90⟩:=bN hr90 G9_eq;obtain ⟨_,ehy94,hr90⟩:=bN hr90 G9_eq;obtain ⟨j95,⟨_,_,_⟩,hr90⟩:=bA hr90;have j95d : j95≤3:=by omega
  obtain ⟨x96,hx96,hr90⟩:=bs hr90;have ghx96:=getE_of hx96;have mhx96 : (intsR .u32 ([4294967295,4294967294,4294967293,0]))[j95]? = some [.v (.int .u32 x96)]:=by rw [intsR_get,hx96]; rfl
  simp only [intsR_cons,intsR_nil] at mhx96;have mghx96:=getE_of mhx96;refine goR ?_;obtain ⟨y97,ehy97,hr90⟩:=bN hr90 G9_eq;refine goR ?_;rcases eqT (y97.1 = 0) with c100 | c100
  ·replace hr90:=ifP hr90
   refine goR ?_;obtain ⟨_,ehy101,hr90⟩:=bN hr90 G9_eq;refine goR ?_;unfold Lmill_Tx_k3 at hr90;obtain ⟨_,hr90⟩:=bC hr90;have n1_u102_0 : (p28.length + 1) * 64≤140737488355328:=by omega
   have n2_u102_0 : p28.length + 1≤9223372036854775807:=by omega
   refine goR ?_;exact bk hr90
  ·replace hr90:=ifN hr90
   refine goR ?_;unfold Lmill_Tx_k3 at hr90;obtain ⟨_,hr90⟩:=bC hr90;have n1_u103_0 : (p28.length + 1) * 64≤140737488355328:=by omega
   have n2_u103_0 : p28.length + 1≤9223372036854775807:=by omega
   refine goR ?_;exact bk hr90
 ·replace hr90:=ifN hr90
  refine goR ?_;obtain ⟨r104,q104,rfl⟩:=ms hr90;refine goR ?_;rintro rfl
  refine goR ?_;unfold Lmill_Tx_k1 at q104;refine goR ?_;obtain ⟨_,ehy105,q104⟩:=bN q104 G19_eq;refine goR ?_;refine lp 10 (fun (⟨p50,p51,p52⟩ : Int×Tlightclientmill_Deck×(List Tapi_Output))=>⟨([.ptr 1000000 0 0 0 2]++(und 1++([.ptr 2 0 0 0 4,.ptr 3 0 0 0 4]++(und 2++([.one (.v (.int .i64 p50))]++(und 59))))) : List PV),([(2,⟨0,4,[[.v (.int .u32 0),.slice .nil [],.slice .nil [],.v (.int .u32 0)]],false,false⟩),(3,⟨0,4,[[.v (.int .u32 (IntKind.u32.wrap (y72.1))),.ms 45 0 0 (p28.length) 35,.ms 63 0 0 (p52.length) 2,.v (.int .u32 (IntKind.u32.wrap (y73.1)))]],false,false⟩),(45,⟨0,35,List.map eapi_Input p28,false,true⟩),(63,⟨0,2,List.map eapi_Output p52,false,true⟩),(1000000,⟨0,2,[[.slice .no (intsR .i64 p51.1),.v (.int .i64 p51.2)]],false,false⟩)] : Boxes)⟩) q104 ?_;rintro ⟨p50,p51,p52⟩ x113r hr113
  simp only [Lmill_Tx_s2] at hr113;unfold b7_2;refine nst ?_;refine goR ?_;by_cases c114 : 0 < p50
  ·replace hr113:=ifP hr113
   refine goR ?_;obtain ⟨_,ehy115,hr113⟩:=bN hr113 G9_eq;obtain ⟨_,ehy116,hr113⟩:=bN hr113 G9_eq;obtain ⟨_,ehy117,hr113⟩:=bN hr113 G21_eq;obtain ⟨_,hr113⟩:=bC hr113;have n1_u118_0 : (p52.length + 1) * 32≤140737488355328:=by omega
   have n2_u118_0 : p52.length + 1≤9223372036854775807:=by omega
   refine goR ?_;exact bk hr113
  ·replace hr113:=ifN hr113
   refine goR ?_;obtain ⟨r119,q119,rfl⟩:=ms hr113;refine goR ?_;rintro rfl
   refine goR ?_;unfold Lmill_Tx_k2 at q119;refine goR ?_;exact fin q119
theorem w6 : Walk tt G [(7,K7.G),(9,K9.G)] (fun _=>[]) Tryz.f6 K6:=by
 refine .of [(3,⟨[0,5,6],[93,1000000],[(5,none,93,5)]⟩),(8,⟨[0,5,6,7,8,27,28],[7,24,93,100024,1000000],[]⟩),(11,⟨[0,5,6,7,8,9,27,28,35,36],[7,24,93,100024,1000000],[]⟩),(16,⟨[0,5,6,7,8,9,27,28,56,57,58],[7,24,93,100024,1000000],[]⟩),(19,⟨[0,5,6,7,8,9,27,28,56,57,58,64,65,66],[7,24,93,100024,1000000],[]⟩),(1000004,⟨[0,5,6],[93,1000000],[]⟩)] true body6 Tryz.ntmps6 fun T hO hT ⟨a0,a1⟩ x hr=>⟨by simp,?_⟩
 simp only [tabAll] at hT; simp only at hr ⊢; unfold c6;unfold Lmill_Pool at hr;refine go ?_;obtain ⟨_,ehy1069,hr⟩:=bN hr G9_eq;refine go ?_;refine lp 3 (fun (⟨p477,p478,p479⟩ : Int×Tlightclientmill_Deck×(List Tapi_Entry))=>⟨([.ptr 1000000 0 0 0 2]++(und 4++([.one (.ms 93 0 0 (p479.length) 5),.one (.v (.int .i64 p477))]++(und 88))) : List PV),([(93,⟨0,5,List.map eapi_Entry p479,false,true⟩),(1000000,⟨0,2,[[.slice .no (intsR .i64 p478.1),.v (.int .i64 p478.2)]],false,false⟩)] : Boxes)⟩) hr ?_;rintro ⟨p477,p478,p479⟩ x1225r hr1225
 simp only [Lmill_Pool_s1] at hr1225;unfold b6_1;refine nst ?_;refine go ?_;by_cases c1226 : 0 < p477
 ·replace hr1225:=ifP hr1225
  refine go ?_;obtain ⟨y1227,ehy1227,hr1225⟩:=bN hr1225 G7_eq;refine go ?_;refine lp 8 (fun (⟨p878,p879⟩ : Bool×Int)=>⟨([.ptr 1000000 0 0 0 2]++(und 4++([.one (.ms 93 0 0 (p479.length) 5),.one (.v (.int .i64 p477)),.ptr 7 0 0 0 4,.one (.v (.bool p878))]++(und 18++([.one (.v (.int .i64 (y1227.1.2.1.length : Int))),.one (.v (.int .i64 p879))]++(und 66))))) : List PV),([(7,⟨0,4,[[.v (.int .u32 y1227.1.1),.ms 24 0 0 (y1227.1.2.1.length) 35,.ms 100024 0 0 (y1227.1.2.2.1.length) 2,.v (.int .u32 y1227.1.2.2.2)]],false,false⟩),(24,⟨0,35,List.map eapi_Input y1227.1.2.1,false,true⟩),(93,⟨0,5,List.map eapi_Entry p479,false,true⟩),(100024,⟨0,2,List.map eapi_Output y1227.1.2.2.1,false,true⟩),(1000000,⟨0,2,[[.slice .no (intsR .i64 y1227.2.1),.v (.int .i64 y1227.2.2)]],false,false⟩)] : Boxes)⟩) hr1225 ?_;rintro ⟨p878,p879⟩ x1300r hr1300
  simp only [Lmill_Pool_s2] at hr1300;unfold b6_2;refine nst ?_;refine go ?_;by_cases c1301 : p879 < (y1227.1.2.1.length : Int)
  ·have c1301N:=nrm c1301
   replace hr1300:=ifP hr1300
   refine go ?_;obtain ⟨⟨_,_⟩,hr1300⟩:=bC hr1300;have sf1303 : (p879).toNat≤y1227.1.2.1.length:=by omega
   have sf1304 : 0≤p879:=by omega
   refine go ?_;refine lp 11 (fun (⟨p977,p978⟩ : Bool×Int)=>⟨([.ptr 1000000 0 0 0 2]++(und 4++([.one (.ms 93 0 0 (p479.length) 5),.one (.v (.int .i64 p477)),.ptr 7 0 0 0 4,.one (.v (.bool p977)),.one (.v (.int .i64 p879))]++(und 17++([.one (.v (.int .i64 (y1227.1.2.1.length : Int))),.one (.v (.int .i64 p879))]++(und 6++([.one (.v (.int .i64 ((p879).toNat : Int))),.one (.v (.int .i64 p978))]++(und 58))))))) : List PV),([(7,⟨0,4,[[.v (.int .u32 y1227.1.1),.ms 24 0 0 (y1227.1.2.1.length) 35,.ms 100024 0 0 (y1227.1.2.2.1.length) 2,.v (.int .u32 y1227.1.2.2.2)]],false,false⟩),(24,⟨0,35,List.map eapi_Input y1227.1.2.1,false,true⟩),(93,⟨0,5,List.map eapi_Entry p479,false,true⟩),(100024,⟨0,2,List.map eapi_Output y1227.1.2.2.1,false,true⟩),(1000000,⟨0,2,[[.slice .no (intsR .i64 y1227.2.1),.v (.int .i64 y1227.2.2)]],false,false⟩)] : Boxes)⟩) hr1300 ?_;rintro ⟨p977,p978⟩ x1315r hr1315
   simp only [Lmill_Pool_s3] at hr1315;unfold b6_3;refine nst ?_;refine go ?_;by_cases c1316 : p978 < ((p879).toNat : Int)
   ·have c1316N:=nrm c1316
    replace hr1315:=ifP hr1315
    refine go ?_;by_cases c1317 : p977 = true
    ·replace hr1315:=ifPb hr1315
     obtain ⟨_,hz1318,hr1315⟩:=bs hr1315;obtain rfl:=Option.some.inj hz1318;refine go ?_;exact bk hr1315
    ·replace hr1315:=ifNb hr1315
     obtain ⟨_,hz1319,hr1315⟩:=bs hr1315;obtain ⟨_,⟨_,_,_⟩,hz1319⟩:=bA hz1319;obtain ⟨_,hx1321,hz1319⟩:=bs hz1319;have ghx1321:=getE_of hx1321;obtain ⟨_,⟨_,_,_⟩,hz1319⟩:=bA hz1319;obtain ⟨_,hx1323,hz1319⟩:=bs hz1319;have ghx1323:=getE_of hx1323;obtain rfl:=Option.some.inj hz1319;refine go ?_;exact bk hr1315
   ·have c1316N:=nrm c1316
    replace hr1315:=ifN hr1315
    refine go ?_;obtain ⟨r1324,q1324,rfl⟩:=ms hr1315;refine go ?_;rintro rfl
    refine go ?_;unfold Lmill_Pool_k4 at q1324;refine go ?_;refine lp 16 (fun (⟨p1022,p1023⟩ : Bool×Int)=>⟨([.ptr 1000000 0 0 0 2]++(und 4++([.one (.ms 93 0 0 (p479.length) 5),.one (.v (.int .i64 p477)),.ptr 7 0 0 0 4,.one (.v (.bool p1022)),.one (.v (.int .i64 p879))]++(und 17++([.one (.v (.int .i64 (y1227.1.2.1.length : Int))),.one (.v (.int .i64 p879))]++(und 27++([.one (.ms 93 0 0 (p479.length) 5),.one (.v (.int .i64 (p479.length : Int))),.one (.v (.int .i64 p1023))]++(und 36))))))) : List PV),([(7,⟨0,4,[[.v (.int .u32 y1227.1.1),.ms 24 0 0 (y1227.1.2.1.length) 35,.ms 100024 0 0 (y1227.1.2.2.1.length) 2,.v (.int .u32 y1227.1.2.2.2)]],false,false⟩),(24,⟨0,35,List.map eapi_Input y1227.1.2.1,false,true⟩),(93,⟨0,5,List.map eapi_Entry p479,false,true⟩),(100024,⟨0,2,List.map eapi_Output y1227.1.2.2.1,false,true⟩),(1000000,⟨0,2,[[.slice .no (intsR .i64 y1227.2.1),.v (.int .i64 y1227.2.2)]],false,false⟩)] : Boxes)⟩) q1324 ?_;rintro ⟨p1022,p1023⟩ x1348r hr1348
    simp only [Lmill_Pool_s4] at hr1348;unfold b6_4;refine nst ?_;refine go ?_;by_cases c1349 : p1023 < (p479.length : Int)
    ·have c1349N:=nrm c1349
     replace hr1348:=ifP hr1348
     refine go ?_;obtain ⟨_,⟨_,_,_⟩,hr1348⟩:=bA hr1348;obtain ⟨x1351,hx1351,hr1348⟩:=bs hr1348;have ghx1351:=getE_of hx1351;refine go ?_;refine lp 19 (fun (⟨p1054,p1055⟩ : Bool×Int)=>⟨([.ptr 1000000 0 0 0 2]++(und 4++([.one (.ms 93 0 0 (p479.length) 5),.one (.v (.int .i64 p477)),.ptr 7 0 0 0 4,.one (.v (.bool p1054)),.one (.v (.int .i64 p879))]++(und 17++([.one (.v (.int .i64 (y1227.1.2.1.length : Int))),.one (.v (.int .i64 p879))]++(und 27++([.one (.ms 93 0 0 (p479.length) 5),.one (.v (.int .i64 (p479.length : Int))),.one (.v (.int .i64 p1023))]++(und 5++([.one (.slice .no (List.map eapi_Input x1351.1.2.1)),.one (.v (.int .i64 (x1351.1.2.1.length : Int))),.one (.v (.int .i64 p1055))]++(und 28))))))))) : List PV),([(7,⟨0,4,[[.v (.int .u32 y1227.1.1),.ms 24 0 0 (y1227.1.2.1.length) 35,.ms 100024 0 0 (y1227.1.2.2.1.length) 2,.v (.int .u32 y1227.1.2.2.2)]],false,false⟩),(24,⟨0,35,List.map eapi_Input y1227.1.2.1,false,true⟩),(93,⟨0,5,List.map eapi_Entry p479,false,true⟩),(100024,⟨0,2,List.map eapi_Output y1227.1.2.2.1,false,true⟩),(1000000,⟨0,2,[[.slice .no (intsR .i64 y1227.2.1),.v (.int .i64 y1227.2.2)]],false,false⟩)] : Boxes)⟩) hr1348 ?_;rintro ⟨p1054,p1055⟩ x1361r hr1361
     simp only [Lmill_Pool_s5] at hr1361;unfold b6_5;refine nst ?_;refine go ?_;by_cases c1362 : p1055 < (x1351.1.2.1.length : Int)
     ·have c1362N:=nrm c1362
      replace hr1361:=ifP hr1361
      refine go ?_;obtain ⟨_,⟨_,_,_⟩,hr1361⟩:=bI hr1361;refine go ?_;by_cases c1364 : p1054 = true
      ·replace hr1361:=ifPb hr1361
       obtain ⟨_,hz1365,hr1361⟩:=bs hr1361;obtain rfl:=Option.some.inj hz1365;refine go ?_;exact bk hr1361
      ·replace hr1361:=ifNb hr1361
       obtain ⟨_,hz1366,hr1361⟩:=bs hr1361;obtain ⟨_,⟨_,_,_⟩,hz1366⟩:=bA hz1366;obtain ⟨_,hx1368,hz1366⟩:=bs hz1366;have ghx1368:=getE_of hx1368;obtain rfl:=Option.some.inj hz1366;refine go ?_;exact bk hr1361
     ·have c1362N:=nrm c1362
      replace hr1361:=ifN hr1361
      refine go ?_;obtain ⟨r1369,q1369,rfl⟩:=ms hr1361;refine go ?_;rintro rfl
      refine go ?_;unfold Lmill_Pool_k6 at q1369;refine go ?_;exact bk q1369
    ·have c1349N:=nrm c1349
     replace hr1348:=ifN hr1348
     refine go ?_;obtain ⟨r1370,q1370,rfl⟩:=ms hr1348;refine go ?_;rintro rfl
     refine go ?_;unfold Lmill_Pool_k5 at q1370;refine go ?_;exact bk q1370
  ·have c1301N:=nrm c1301
   replace hr1300:=ifN hr1300
   refine go ?_;obtain ⟨r1371,q1371,rfl⟩:=ms hr1300;refine go ?_;rintro rfl
   refine go ?_;unfold Lmill_Pool_k2 at q1371;refine go ?_;refine ee_J q1371 (.normal) (fun (s : Tlightclientmill_Deck×(List Tapi_Entry))=>match s with | (p960,p961)=>(⟨([.ptr 1000000 0 0 0 2]++(und 4++([.one (.ms 93 0 0 (p961.length) 5),.one (.v (.int .i64 p477))]++(und 88))) : List PV),([(93,⟨0,5,List.map eapi_Entry p961,false,true⟩),(1000000,⟨0,2,[[.slice .no (intsR .i64 p960.1),.v (.int .i64 p960.2)]],false,false⟩)] : Boxes)⟩ : ASt)) (fun (s : Tlightclientmill_Deck×(List Tapi_Entry))=>match s with | (p960,p961)=>Lmill_Pool_k3 p477 p960 p961) ?_ ?_
   ·rintro ⟨p960,p961⟩ hk1375
    change Lmill_Pool_k3 p477 p960 p961 = _ at hk1375
    refine go ?_;refine nst ?_;unfold Lmill_Pool_k3 at hk1375;refine ee_regJ rfl (kq:=⟨[0,5,6],[93,1000000],[]⟩) rfl (by simp [joinSt, *]; rfl) (by simp [*] <;> rfl) ?_;exact bk hk1375
   ·intro J1375
    simp only [pq,reduceCtorEq] at J1375;by_cases c1376 : p878 = true
    ·replace q1371:=ifN q1371
     refine go ?_;exact jn 1000004 (J1375 (y1227.2,p479) q1371)
    ·replace q1371:=ifP q1371
     refine go ?_;obtain ⟨y1377,ehy1377,q1371⟩:=bN q1371 G9_eq;obtain ⟨_,q1371⟩:=bC q1371;have n1_u1378_0 : (p479.length + 1) * 72≤140737488355328:=by omega
     have n2_u1378_0 : p479.length + 1≤9223372036854775807:=by omega
     refine go ?_;exact jn 1000004 (J1375 (y1377.2,p479++[((y1227.1.1,y1227.1.2.1,y1227.1.2.2.1,y1227.1.2.2.2),y1377.1)]) q1371)
 ·replace hr1225:=ifN hr1225
  refine go ?_;obtain ⟨r1379,q1379,rfl⟩:=ms hr1225;refine go ?_;rintro rfl
  refine go ?_;unfold Lmill_Pool_k1 at q1379;refine go ?_;exact fin q1379
theorem w97 : Walk tt G [] (fun _=>[]) Tryz.f97 K97:=by
 refine .of [] true body97 Tryz.ntmps97 fun T hO hT ⟨a0,a1⟩ x hr=>⟨by simp,?_⟩
 simp only [tabAll] at hT; simp only at hr ⊢; unfold c97;unfold Lref01_joined at hr;refine go ?_;obtain ⟨⟨_,_⟩,hr⟩:=bC hr;have mf5 : 0≤(IntKind.i64.wrap ((a0.length : Int) + (a1.length : Int))).toNat:=by omega
 have mf6 : (IntKind.i64.wrap ((a0.length : Int) + (a1.length : Int))).toNat≤140737488355328:=by omega
 have mf7 : (IntKind.i64.wrap ((a0.length : Int) + (a1.length : Int))).toNat≤9223372036854775807:=by omega
 have mf8 : 0≤IntKind.i64.wrap ((a0.length : Int) + (a1.length : Int)):=by omega
 refine go ?_;obtain ⟨_,hr⟩:=bC hr;have n1_u9_0 : a0.length≤140737488355328:=by omega
 have n2_u9_0 : a0.length≤9223372036854775807:=by omega
 obtain ⟨_,hr⟩:=bC hr;have n1_u10_0 : a0.length + a1.length≤140737488355328:=by omega
 have n2_u10_0 : a0.length + a1.length≤9223372036854775807:=by omega
 refine go ?_;exact fin hr
end Go.Proofs.YtjdoijdjeapekaaGreatDoor
