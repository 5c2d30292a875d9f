import Derived.Test.YtjdoijdjeapekaaDoorLfK
import Derived.Test.YtjdoijdjeapekaaDoorCode
namespace Go.Proofs.YtjdoijdjeapekaaDoor
open Go.RowKit
open Go.Av
open Go.Lc
set_option maxRecDepth 100000
set_option linter.unusedSimpArgs false
set_option linter.unusedVariables false
set_option maxHeartbeats 4000000
theorem w69 : Walk tt G [(87,K87.G),(88,K88.G)] (fun _=>[]) Tryd.f69 K69:=by
 refine .of [] false body69 Tryd.ntmps69 fun T hO hT ⟨a0,a1⟩ x hr=>⟨by simp,?_⟩
 simp only [tabAll] at hT; simp only at hr ⊢; unfold c69;unfold Ltx_digest at hr;refine go ?_;obtain ⟨y3,ehy3,hr⟩:=bN hr G87_eq;refine go ?_;rcases eqT (y3.2 = 0) with c4 | c4
 ·replace hr:=ifN hr
  refine go ?_;obtain ⟨_,ehy5,hr⟩:=bN hr G88_eq;refine go ?_;exact fin hr
 ·replace hr:=ifP hr
  refine go ?_;exact fin hr
theorem w46 : Walk tt G [(69,K69.G)] (fun _=>[]) Tryd.f46 K46:=by
 refine .of [] false body46 Tryd.ntmps46 fun T hO hT a0 x hr=>⟨by simp,?_⟩
 simp only [tabAll] at hT; simp only at hr ⊢; unfold c46;unfold Ltx_ID at hr;refine go ?_;obtain ⟨_,ehy2,hr⟩:=bN hr G69_eq;refine go ?_;exact fin hr
theorem w49 : Walk tt G [] (fun _=>[]) Tryd.f49 K49:=by
 refine .of [] false body49 Tryd.ntmps49 fun T hO hT a0 x hr=>⟨by simp,?_⟩
 simp only [tabAll] at hT; simp only at hr ⊢; unfold c49;unfold Lreplace_money at hr;refine go ?_;by_cases c1 : 0≤a0
 ·refine go ?_
  exact fin hr
 ·refine go ?_
  exact fin hr
theorem w50 : Walk tt G [(49,K49.G)] (fun _=>[]) Tryd.f50 K50:=by
 refine .of [] false body50 Tryd.ntmps50 fun T hO hT a0 x hr=>⟨by simp,?_⟩
 simp only [tabAll] at hT; simp only at hr ⊢; unfold c50;unfold Lreplace_Accept_3 at hr;refine go ?_;obtain ⟨_,ehy2,hr⟩:=bN hr G49_eq;refine go ?_;exact fin hr
theorem w52 : Walk tt G [(18,K18.G)] (fun _=>[]) Tryd.f52 K52:=by
 refine .of [] false body52 Tryd.ntmps52 fun T hO hT a0 x hr=>⟨by simp,?_⟩
 simp only [tabAll] at hT; simp only at hr ⊢; unfold c52;unfold Lreplace_Accept_5 at hr;refine go ?_;obtain ⟨_,ehy2,hr⟩:=bN hr G18_eq;refine go ?_;exact fin hr
theorem w24 : Walk tt G [(60,K60.G),(61,K61.G)] (fun _=>[]) Tryd.f24 K24:=by
 refine .of [] false body24 Tryd.ntmps24 fun T hO hT a0 x hr=>⟨by simp,?_⟩
 simp only [tabAll] at hT; simp only at hr ⊢; unfold c24;unfold Ltx_Weight at hr;refine go ?_;obtain ⟨y4,ehy4,hr⟩:=bN hr G60_eq;refine go ?_;by_cases c5 : y4 = true
 ·replace hr:=ifN hr
  refine go ?_;obtain ⟨_,ehy6,hr⟩:=bN hr G61_eq;obtain ⟨_,ehy7,hr⟩:=bN hr G61_eq;refine go ?_;exact fin hr
 ·replace hr:=ifP hr
  refine go ?_;exact fin hr
theorem w25 : Walk tt G [] (fun _=>[]) Tryd.f25 K25:=by
 refine .of [] false body25 Tryd.ntmps25 fun T hO hT ⟨a0,a1⟩ x hr=>⟨by simp,?_⟩
 simp only [tabAll] at hT; simp only at hr ⊢; unfold c25;unfold Lbuild_Fee at hr;refine go ?_;by_cases c1 : a0 < 0
 ·refine go ?_
  replace hr:=ifP hr
  refine go ?_;exact fin hr
 ·by_cases c2 : 80000 < a0
  ·refine go ?_
   replace hr:=ifP hr
   refine go ?_;exact fin hr
  ·by_cases c3 : a1 < 0
   ·refine go ?_
    replace hr:=ifP hr
    refine go ?_;exact fin hr
   ·refine go ?_
    by_cases c4 : 1048576 < a1
    ·replace hr:=ifP hr
     refine go ?_;exact fin hr
    ·replace hr:=ifN hr
     refine go ?_;exact fin hr
theorem w71 : Walk tt G [] (fun _=>[]) Tryd.f71 K71:=by
 refine .of [] false body71 Tryd.ntmps71 fun T hO hT ⟨a0,a1⟩ x hr=>⟨by simp,?_⟩
 simp only [tabAll] at hT; simp only at hr ⊢; unfold c71;unfold Lfees_Rate at hr;refine go ?_;by_cases c2 : a0 < 0
 ·refine go ?_
  replace hr:=ifP hr
  refine go ?_;exact fin hr
 ·by_cases c3 : 2100000000000000 < a0
  ·refine go ?_
   replace hr:=ifP hr
   refine go ?_;exact fin hr
  ·by_cases c4 : a1 < 1
   ·refine go ?_
    replace hr:=ifP hr
    refine go ?_;exact fin hr
   ·refine go ?_
    by_cases c5 : 80000 < a1
    ·replace hr:=ifP hr
     refine go ?_;exact fin hr
    ·replace hr:=ifN hr
     refine go ?_;obtain ⟨_,hr⟩:=bC hr;refine go ?_;exact fin hr
theorem w73 : Walk tt G [(24,K24.G),(71,K71.G)] (fun _=>[]) Tryd.f73 K73:=by
 refine .of [] false body73 Tryd.ntmps73 fun T hO hT a0 x hr=>⟨by simp,?_⟩
 simp only [tabAll] at hT; simp only at hr ⊢; unfold c73;unfold Lreplace_rateOf at hr;refine go ?_;obtain ⟨_,ehy3,hr⟩:=bN hr G24_eq;obtain ⟨_,ehy4,hr⟩:=bN hr G71_eq;refine go ?_;exact fin hr
theorem w72_9 : Walk tt G [(73,K73.G)] (fun _=>[]) Tryd.f72 K72_9:=by
 refine .of [] false body72 Tryd.ntmps72 fun T hO hT ⟨a0,a1⟩ x hr=>⟨by simp,?_⟩
 simp only [tabAll] at hT; simp only at hr ⊢; unfold c72;unfold Lreplace_enough_1__r at hr;refine go ?_;obtain ⟨_,ehy2,hr⟩:=bN hr G73_eq;refine go ?_;exact fin hr
theorem w68_10 : Walk tt G [(72,K72_9.G)] (fun _=>[]) Tryd.f68 K68_10:=by
 refine .of [(2,⟨[0,1,7,8],[],[]⟩)] false body68 Tryd.ntmps68 fun T hO hT ⟨a0,a1⟩ x hr=>⟨by simp,?_⟩
 simp only [tabAll] at hT; simp only at hr ⊢; unfold c68;unfold Lslices_IndexFunc_of__api_Entry_api_Entry__replace_enough_1 at hr;refine go ?_;refine lp 2 (fun (p6 : Int)=>⟨([.one (.slice .no (List.map eapi_Entry a0)),.clo 72 [.ref ([.v (.int .i64 a1)])]]++(und 5++([.one (.v (.int .i64 (a0.length : Int))),.one (.v (.int .i64 p6))]++(und 10))) : List PV),([] : Boxes)⟩) hr ?_;rintro p6 x17r hr17
 simp only [Lslices_IndexFunc_of__api_Entry_api_Entry__replace_enough_1_s1] at hr17;unfold b68_1;refine nst ?_;refine go ?_;by_cases c18 : p6 < (a0.length : Int)
 ·have c18N:=nrm c18
  replace hr17:=ifP hr17
  refine go ?_;obtain ⟨_,⟨_,_,_⟩,hr17⟩:=bI hr17;obtain ⟨y20,ehy20,hr17⟩:=bN hr17 G72_9_eq;refine go ?_;by_cases c21 : y20 = true
  ·replace hr17:=ifP hr17
   refine go ?_;exact fin hr17
  ·replace hr17:=ifN hr17
   refine go ?_;exact bk hr17
 ·have c18N:=nrm c18
  replace hr17:=ifN hr17
  refine go ?_;obtain ⟨r22,q22,rfl⟩:=ms hr17;refine go ?_;rintro rfl
  refine go ?_;unfold Lslices_IndexFunc_of__api_Entry_api_Entry__replace_enough_1_k1 at q22;refine go ?_;exact fin q22
theorem w44_11 : Walk tt G [(68,K68_10.G)] (fun _=>[]) Tryd.f44 K44_11:=by
 refine .of [] false body44 Tryd.ntmps44 fun T hO hT ⟨a0,a1⟩ x hr=>⟨by simp,?_⟩
 simp only [tabAll] at hT; simp only at hr ⊢; unfold c44;unfold Lslices_ContainsFunc_of__api_Entry_api_Entry__replace_enough_1 at hr;refine go ?_;obtain ⟨_,ehy2,hr⟩:=bN hr G68_10_eq;refine go ?_;exact fin hr
theorem w53 : Walk tt G [(24,K24.G),(25,K25.G),(44,K44_11.G),(71,K71.G)] (fun _=>[]) Tryd.f53 K53:=by
 refine .of [(4,⟨[0,2,7,8,18,19,20],[],[]⟩)] false body53 Tryd.ntmps53 fun T hO hT ⟨a0,a1,a2⟩ x hr=>⟨by simp,?_⟩
 simp only [tabAll] at hT; simp only at hr ⊢; unfold c53;unfold Lreplace_enough at hr;refine go ?_;obtain ⟨y13,ehy13,hr⟩:=bN hr G24_eq;refine go ?_;obtain ⟨_,ehy14,hr⟩:=bN hr G25_eq;refine go ?_;refine lp 4 (fun (⟨p7,p8⟩ : Int×Int)=>⟨([.one (.slice .no (List.map eapi_Entry a0))]++(und 1++([.one (.v (.int .i64 a2))]++(und 4++([.one (.v (.int .i64 y13)),.one (.v (.int .i64 p7))]++(und 9++([.one (.slice .no (List.map eapi_Entry a0)),.one (.v (.int .i64 (a0.length : Int))),.one (.v (.int .i64 p8))]++(und 21))))))) : List PV),([] : Boxes)⟩) hr ?_;rintro ⟨p7,p8⟩ x20r hr20
 simp only [Lreplace_enough_s1] at hr20;unfold b53_1;refine nst ?_;refine go ?_;by_cases c21 : p8 < (a0.length : Int)
 ·have c21N:=nrm c21
  replace hr20:=ifP hr20
  refine go ?_;obtain ⟨x22,⟨_,_,_⟩,hr20⟩:=bI hr20;refine go ?_;by_cases c23 : p7 < x22.2
  ·replace hr20:=ifP hr20
   refine go ?_;exact fin hr20
  ·replace hr20:=ifN hr20
   refine go ?_;exact bk hr20
 ·have c21N:=nrm c21
  replace hr20:=ifN hr20
  refine go ?_;obtain ⟨r24,q24,rfl⟩:=ms hr20;refine go ?_;rintro rfl
  refine go ?_;unfold Lreplace_enough_k1 at q24;refine go ?_;by_cases c25 : p7 < 0
  ·replace q24:=ifP q24
   refine go ?_;exact fin q24
  ·replace q24:=ifN q24
   refine go ?_;obtain ⟨_,ehy26,q24⟩:=bN q24 G71_eq;refine go ?_;obtain ⟨_,ehy27,q24⟩:=bN q24 G44_11_eq;refine go ?_;exact fin q24
theorem w68_12 : Walk tt G [(50,K50.G)] (fun _=>[]) Tryd.f68 K68_12:=by
 refine .of [(2,⟨[0,1,7,8],[],[]⟩)] false body68 Tryd.ntmps68 fun T hO hT a0 x hr=>⟨by simp,?_⟩
 simp only [tabAll] at hT; simp only at hr ⊢; unfold c68;unfold Lslices_IndexFunc_of__api_Entry_api_Entry__replace_Accept_3 at hr;refine go ?_;refine lp 2 (fun (p6 : Int)=>⟨([.one (.slice .no (List.map eapi_Entry a0)),.fn 50]++(und 5++([.one (.v (.int .i64 (a0.length : Int))),.one (.v (.int .i64 p6))]++(und 10))) : List PV),([] : Boxes)⟩) hr ?_;rintro p6 x17r hr17
 simp only [Lslices_IndexFunc_of__api_Entry_api_Entry__replace_Accept_3_s1] at hr17;unfold b68_1;refine nst ?_;refine go ?_;by_cases c18 : p6 < (a0.length : Int)
 ·have c18N:=nrm c18
  replace hr17:=ifP hr17
  refine go ?_;obtain ⟨_,⟨_,_,_⟩,hr17⟩:=bI hr17;obtain ⟨y20,ehy20,hr17⟩:=bN hr17 G50_eq;refine go ?_;by_cases c21 : y20 = true
  ·replace hr17:=ifP hr17
   refine go ?_;exact fin hr17
  ·replace hr17:=ifN hr17
   refine go ?_;exact bk hr17
 ·have c18N:=nrm c18
  replace hr17:=ifN hr17
  refine go ?_;obtain ⟨r22,q22,rfl⟩:=ms hr17;refine go ?_;rintro rfl
  refine go ?_;unfold Lslices_IndexFunc_of__api_Entry_api_Entry__replace_Accept_3_k1 at q22;refine go ?_;exact fin q22
theorem w44_13 : Walk tt G [(68,K68_12.G)] (fun _=>[]) Tryd.f44 K44_13:=by
 refine .of [] false body44 Tryd.ntmps44 fun T hO hT a0 x hr=>⟨by simp,?_⟩
 simp only [tabAll] at hT; simp only at hr ⊢; unfold c44;unfold Lslices_ContainsFunc_of__api_Entry_api_Entry__replace_Accept_3 at hr;refine go ?_;obtain ⟨_,ehy2,hr⟩:=bN hr G68_12_eq;refine go ?_;exact fin hr
theorem w43_14 : Walk tt G [(44,K44_13.G)] (fun _=>[]) Tryd.f43 K43_14:=by
 refine .of [] false body43 Tryd.ntmps43 fun T hO hT a0 x hr=>⟨by simp,?_⟩
 simp only [tabAll] at hT; simp only at hr ⊢; unfold c43;unfold Lreplace_Accept_1__replace_Accept_3_p at hr;refine go ?_;obtain ⟨_,ehy2,hr⟩:=bN hr G44_13_eq;refine go ?_;exact fin hr
theorem w51_15 : Walk tt G [(17,K17.G)] (fun _=>[]) Tryd.f51 K51_15:=by
 refine .of [] false body51 Tryd.ntmps51 fun T hO hT ⟨a0,a1⟩ x hr=>⟨by simp,?_⟩
 simp only [tabAll] at hT; simp only at hr ⊢; unfold c51;unfold Lreplace_Accept_4__r at hr;refine go ?_;obtain ⟨_,ehy2,hr⟩:=bN hr G17_eq;refine go ?_;exact fin hr
theorem w68_16 : Walk tt G [(51,K51_15.G)] (fun _=>[]) Tryd.f68 K68_16:=by
 refine .of [(2,⟨[0,1,7,8],[],[]⟩)] false body68 Tryd.ntmps68 fun T hO hT ⟨a0,a1⟩ x hr=>⟨by simp,?_⟩
 simp only [tabAll] at hT; simp only at hr ⊢; unfold c68;unfold Lslices_IndexFunc_of__api_Entry_api_Entry__replace_Accept_4 at hr;refine go ?_;refine lp 2 (fun (p6 : Int)=>⟨([.one (.slice .no (List.map eapi_Entry a0)),.clo 51 [.ref ([.v (.int .u32 a1.1),.slice .no (List.map eapi_Input a1.2.1),.slice .no (List.map eapi_Output a1.2.2.1),.v (.int .u32 a1.2.2.2)])]]++(und 5++([.one (.v (.int .i64 (a0.length : Int))),.one (.v (.int .i64 p6))]++(und 10))) : List PV),([] : Boxes)⟩) hr ?_;rintro p6 x17r hr17
 simp only [Lslices_IndexFunc_of__api_Entry_api_Entry__replace_Accept_4_s1] at hr17;unfold b68_1;refine nst ?_;refine go ?_;by_cases c18 : p6 < (a0.length : Int)
 ·have c18N:=nrm c18
  replace hr17:=ifP hr17
  refine go ?_;obtain ⟨_,⟨_,_,_⟩,hr17⟩:=bI hr17;obtain ⟨y20,ehy20,hr17⟩:=bN hr17 G51_15_eq;refine go ?_;by_cases c21 : y20 = true
  ·replace hr17:=ifP hr17
   refine go ?_;exact fin hr17
  ·replace hr17:=ifN hr17
   refine go ?_;exact bk hr17
 ·have c18N:=nrm c18
  replace hr17:=ifN hr17
  refine go ?_;obtain ⟨r22,q22,rfl⟩:=ms hr17;refine go ?_;rintro rfl
  refine go ?_;unfold Lslices_IndexFunc_of__api_Entry_api_Entry__replace_Accept_4_k1 at q22;refine go ?_;exact fin q22
theorem w44_17 : Walk tt G [(68,K68_16.G)] (fun _=>[]) Tryd.f44 K44_17:=by
 refine .of [] false body44 Tryd.ntmps44 fun T hO hT ⟨a0,a1⟩ x hr=>⟨by simp,?_⟩
 simp only [tabAll] at hT; simp only at hr ⊢; unfold c44;unfold Lslices_ContainsFunc_of__api_Entry_api_Entry__replace_Accept_4 at hr;refine go ?_;obtain ⟨_,ehy2,hr⟩:=bN hr G68_16_eq;refine go ?_;exact fin hr
theorem w43_18 : Walk tt G [(44,K44_17.G)] (fun _=>[]) Tryd.f43 K43_18:=by
 refine .of [] false body43 Tryd.ntmps43 fun T hO hT ⟨a0,a1⟩ x hr=>⟨by simp,?_⟩
 simp only [tabAll] at hT; simp only at hr ⊢; unfold c43;unfold Lreplace_Accept_1__replace_Accept_4_p at hr;refine go ?_;obtain ⟨_,ehy2,hr⟩:=bN hr G44_17_eq;refine go ?_;exact fin hr
theorem w68_19 : Walk tt G [(52,K52.G)] (fun _=>[]) Tryd.f68 K68_19:=by
 refine .of [(2,⟨[0,1,7,8],[],[]⟩)] false body68 Tryd.ntmps68 fun T hO hT a0 x hr=>⟨by simp,?_⟩
 simp only [tabAll] at hT; simp only at hr ⊢; unfold c68;unfold Lslices_IndexFunc_of__api_Entry_api_Entry__replace_Accept_5 at hr;refine go ?_;refine lp 2 (fun (p6 : Int)=>⟨([.one (.slice .no (List.map eapi_Entry a0)),.fn 52]++(und 5++([.one (.v (.int .i64 (a0.length : Int))),.one (.v (.int .i64 p6))]++(und 10))) : List PV),([] : Boxes)⟩) hr ?_;rintro p6 x17r hr17
 simp only [Lslices_IndexFunc_of__api_Entry_api_Entry__replace_Accept_5_s1] at hr17;unfold b68_1;refine nst ?_;refine go ?_;by_cases c18 : p6 < (a0.length : Int)
 ·have c18N:=nrm c18
  replace hr17:=ifP hr17
  refine go ?_;obtain ⟨_,⟨_,_,_⟩,hr17⟩:=bI hr17;obtain ⟨y20,ehy20,hr17⟩:=bN hr17 G52_eq;refine go ?_;by_cases c21 : y20 = true
  ·replace hr17:=ifP hr17
   refine go ?_;exact fin hr17
  ·replace hr17:=ifN hr17
   refine go ?_;exact bk hr17
 ·have c18N:=nrm c18
  replace hr17:=ifN hr17
  refine go ?_;obtain ⟨r22,q22,rfl⟩:=ms hr17;refine go ?_;rintro rfl
  refine go ?_;unfold Lslices_IndexFunc_of__api_Entry_api_Entry__replace_Accept_5_k1 at q22;refine go ?_;exact fin q22
theorem w44_20 : Walk tt G [(68,K68_19.G)] (fun _=>[]) Tryd.f44 K44_20:=by
 refine .of [] false body44 Tryd.ntmps44 fun T hO hT a0 x hr=>⟨by simp,?_⟩
 simp only [tabAll] at hT; simp only at hr ⊢; unfold c44;unfold Lslices_ContainsFunc_of__api_Entry_api_Entry__replace_Accept_5 at hr;refine go ?_;obtain ⟨_,ehy2,hr⟩:=bN hr G68_19_eq;refine go ?_;exact fin hr
theorem w43_21 : Walk tt G [(44,K44_20.G)] (fun _=>[]) Tryd.f43 K43_21:=by
 refine .of [] false body43 Tryd.ntmps43 fun T hO hT a0 x hr=>⟨by simp,?_⟩
 simp only [tabAll] at hT; simp only at hr ⊢; unfold c43;unfold Lreplace_Accept_1__replace_Accept_5_p at hr;refine go ?_;obtain ⟨_,ehy2,hr⟩:=bN hr G44_20_eq;refine go ?_;exact fin hr
theorem w47_22 : Walk tt G [] (fun _=>[]) Tryd.f47 K47_22:=by
 refine .of [] false body47 Tryd.ntmps47 fun T hO hT ⟨a0,a1⟩ x hr=>⟨by simp,?_⟩
 simp only [tabAll] at hT; simp only at hr ⊢; unfold c47;unfold Lreplace_Accept_2_1__r at hr;refine go ?_;exact fin hr
theorem w66_23 : Walk tt G [(47,K47_22.G)] (fun _=>[]) Tryd.f66 K66_23:=by
 refine .of [(2,⟨[0,1,7,8],[],[]⟩)] false body66 Tryd.ntmps66 fun T hO hT ⟨a0,a1⟩ x hr=>⟨by simp,?_⟩
 simp only [tabAll] at hT; simp only at hr ⊢; unfold c66;unfold Lslices_IndexFunc_of__api_Input_api_Input__replace_Accept_2_1 at hr;refine go ?_;refine lp 2 (fun (p6 : Int)=>⟨([.one (.slice .no (List.map eapi_Input a0)),.clo 47 [.ref (arC .u8 a1)]]++(und 5++([.one (.v (.int .i64 (a0.length : Int))),.one (.v (.int .i64 p6))]++(und 10))) : List PV),([] : Boxes)⟩) hr ?_;rintro p6 x17r hr17
 simp only [Lslices_IndexFunc_of__api_Input_api_Input__replace_Accept_2_1_s1] at hr17;unfold b66_1;refine nst ?_;refine go ?_;by_cases c18 : p6 < (a0.length : Int)
 ·have c18N:=nrm c18
  replace hr17:=ifP hr17
  refine go ?_;obtain ⟨_,⟨_,_,_⟩,hr17⟩:=bI hr17;obtain ⟨y20,ehy20,hr17⟩:=bN hr17 G47_22_eq;refine go ?_;by_cases c21 : y20 = true
  ·replace hr17:=ifP hr17
   refine go ?_;exact fin hr17
  ·replace hr17:=ifN hr17
   refine go ?_;exact bk hr17
 ·have c18N:=nrm c18
  replace hr17:=ifN hr17
  refine go ?_;obtain ⟨r22,q22,rfl⟩:=ms hr17;refine go ?_;rintro rfl
  refine go ?_;unfold Lslices_IndexFunc_of__api_Input_api_Input__replace_Accept_2_1_k1 at q22;refine go ?_;exact fin q22
theorem w38_24 : Walk tt G [(66,K66_23.G)] (fun _=>[]) Tryd.f38 K38_24:=by
 refine .of [] false body38 Tryd.ntmps38 fun T hO hT ⟨a0,a1⟩ x hr=>⟨by simp,?_⟩
 simp only [tabAll] at hT; simp only at hr ⊢; unfold c38;unfold Lslices_ContainsFunc_of__api_Input_api_Input__replace_Accept_2_1 at hr;refine go ?_;obtain ⟨_,ehy2,hr⟩:=bN hr G66_23_eq;refine go ?_;exact fin hr
theorem w45_25 : Walk tt G [(38,K38_24.G),(46,K46.G)] (fun _=>[]) Tryd.f45 K45_25:=by
 refine .of [] false body45 Tryd.ntmps45 fun T hO hT ⟨a0,a1⟩ x hr=>⟨by simp,?_⟩
 simp only [tabAll] at hT; simp only at hr ⊢; unfold c45;unfold Lreplace_Accept_2__r at hr;refine go ?_;obtain ⟨_,ehy3,hr⟩:=bN hr G46_eq;refine go ?_;obtain ⟨_,ehy4,hr⟩:=bN hr G38_24_eq;refine go ?_;exact fin hr
theorem w68_26 : Walk tt G [(45,K45_25.G)] (fun _=>[]) Tryd.f68 K68_26:=by
 refine .of [(2,⟨[0,1,7,8],[],[]⟩)] false body68 Tryd.ntmps68 fun T hO hT ⟨a0,a1⟩ x hr=>⟨by simp,?_⟩
 simp only [tabAll] at hT; simp only at hr ⊢; unfold c68;unfold Lslices_IndexFunc_of__api_Entry_api_Entry__replace_Accept_2 at hr;refine go ?_;refine lp 2 (fun (p6 : Int)=>⟨([.one (.slice .no (List.map eapi_Entry a0)),.clo 45 [.ref ([.v (.int .u32 a1.1),.slice .no (List.map eapi_Input a1.2.1),.slice .no (List.map eapi_Output a1.2.2.1),.v (.int .u32 a1.2.2.2)])]]++(und 5++([.one (.v (.int .i64 (a0.length : Int))),.one (.v (.int .i64 p6))]++(und 10))) : List PV),([] : Boxes)⟩) hr ?_;rintro p6 x17r hr17
 simp only [Lslices_IndexFunc_of__api_Entry_api_Entry__replace_Accept_2_s1] at hr17;unfold b68_1;refine nst ?_;refine go ?_;by_cases c18 : p6 < (a0.length : Int)
 ·have c18N:=nrm c18
  replace hr17:=ifP hr17
  refine go ?_;obtain ⟨_,⟨_,_,_⟩,hr17⟩:=bI hr17;obtain ⟨y20,ehy20,hr17⟩:=bN hr17 G45_25_eq;refine go ?_;by_cases c21 : y20 = true
  ·replace hr17:=ifP hr17
   refine go ?_;exact fin hr17
  ·replace hr17:=ifN hr17
   refine go ?_;exact bk hr17
 ·have c18N:=nrm c18
  replace hr17:=ifN hr17
  refine go ?_;obtain ⟨r22,q22,rfl⟩:=ms hr17;refine go ?_;rintro rfl
  refine go ?_;unfold Lslices_IndexFunc_of__api_Entry_api_Entry__replace_Accept_2_k1 at q22;refine go ?_;exact fin q22
theorem w44_27 : Walk tt G [(68,K68_26.G)] (fun _=>[]) Tryd.f44 K44_27:=by
 refine .of [] false body44 Tryd.ntmps44 fun T hO hT ⟨a0,a1⟩ x hr=>⟨by simp,?_⟩
 simp only [tabAll] at hT; simp only at hr ⊢; unfold c44;unfold Lslices_ContainsFunc_of__api_Entry_api_Entry__replace_Accept_2 at hr;refine go ?_;obtain ⟨_,ehy2,hr⟩:=bN hr G68_26_eq;refine go ?_;exact fin hr
theorem w43_28 : Walk tt G [(44,K44_27.G)] (fun _=>[]) Tryd.f43 K43_28:=by
 refine .of [] false body43 Tryd.ntmps43 fun T hO hT ⟨a0,a1⟩ x hr=>⟨by simp,?_⟩
 simp only [tabAll] at hT; simp only at hr ⊢; unfold c43;unfold Lreplace_Accept_1__replace_Accept_2_p at hr;refine go ?_;obtain ⟨_,ehy2,hr⟩:=bN hr G44_27_eq;refine go ?_;exact fin hr
theorem w19 : Walk tt G [(42,K42.G),(43,(gor K43_28.G (gor K43_18.G (gor K43_14.G K43_21.G)))),(48,K48.G),(49,K49.G),(53,K53.G)] (fun _=>[]) Tryd.f19 K19:=by
 refine .of [] false body19 Tryd.ntmps19 fun T hO hT ⟨a0,a1,a2⟩ x hr=>⟨by simp,?_⟩
 simp only [tabAll] at hT; simp only at hr ⊢; unfold c19;unfold Lreplace_Accept at hr;refine go ?_;obtain ⟨y10,ehy10,hr⟩:=bN hr G42_eq;refine go ?_;rcases eqT (y10 = 0) with c11 | c11
 ·replace hr:=ifN hr
  refine go ?_;obtain ⟨y12,ehy12,hr⟩:=bN hr G48_eq;refine go ?_;by_cases c13 : y12 = true
  ·replace hr:=ifP hr
   refine go ?_;exact fin hr
  ·replace hr:=ifN hr
   refine go ?_;obtain ⟨y14,ehy14,hr⟩:=bN hr G49_eq;by_cases c15 : y14 = true
   ·replace hr:=ifNb hr
    obtain ⟨_,hz16,hr⟩:=bs hr;obtain ⟨y17,hy17,hz16⟩:=bs hz16;have ehy17:=gor_r (g:=K43_28.G) (Con.none (by rintro a h; simp [*] at h)) (gor_r (g:=K43_18.G) (Con.none (by rintro a h; simp [*] at h)) (gor_l (h:=K43_21.G) (G43_14_eq hy17)));simp only [K43_14,nf,nfs] at ehy17;obtain rfl:=Option.some.inj hz16;refine go ?_;by_cases c18 : y17 = true
    ·replace hr:=ifP hr
     refine go ?_;exact fin hr
    ·replace hr:=ifN hr
     refine go ?_;obtain ⟨y19,hy19,hr⟩:=bs hr;have ehy19:=gor_r (g:=K43_28.G) (Con.none (by rintro a h; simp [*] at h)) (gor_l (h:=(gor K43_14.G K43_21.G)) (G43_18_eq hy19));simp only [K43_18,nf,nfs] at ehy19;refine go ?_;by_cases c20 : y19 = true
     ·replace hr:=ifP hr
      refine go ?_;exact fin hr
     ·replace hr:=ifN hr
      refine go ?_;obtain ⟨y21,hy21,hr⟩:=bs hr;have ehy21:=gor_r (g:=K43_28.G) (Con.none (by rintro a h; simp [*] at h)) (gor_r (g:=K43_18.G) (Con.none (by rintro a h; simp [*] at h)) (gor_r (g:=K43_14.G) (Con.none (by rintro a h; simp [*] at h)) (G43_21_eq hy21)));simp only [K43_21,nf,nfs] at ehy21;refine go ?_;by_cases c22 : y21 = true
      ·replace hr:=ifP hr
       refine go ?_;exact fin hr
      ·replace hr:=ifN hr
       refine go ?_;obtain ⟨y23,hy23,hr⟩:=bs hr;have ehy23:=gor_l (h:=(gor K43_18.G (gor K43_14.G K43_21.G))) (G43_28_eq hy23);simp only [K43_28,nf,nfs] at ehy23;refine go ?_;by_cases c24 : y23 = true
       ·replace hr:=ifP hr
        refine go ?_;exact fin hr
       ·replace hr:=ifN hr
        refine go ?_;obtain ⟨y25,ehy25,hr⟩:=bN hr G53_eq;refine go ?_;by_cases c26 : y25 = true
        ·replace hr:=ifN hr
         refine go ?_;exact fin hr
        ·replace hr:=ifP hr
         refine go ?_;exact fin hr
   ·replace hr:=ifPb hr
    obtain ⟨_,hz27,hr⟩:=bs hr;obtain rfl:=Option.some.inj hz27;refine go ?_
    replace hr:=ifP hr
    refine go ?_;exact fin hr
 ·replace hr:=ifP hr
  refine go ?_;exact fin hr
theorem w5 : Walk tt G [(17,K17.G),(18,K18.G),(19,K19.G)] (fun _=>[]) Tryd.f5 K5:=by
 refine .of [] false body5 Tryd.ntmps5 fun T hO hT _ x hr=>⟨by simp,?_⟩
 simp only [tabAll] at hT; simp only at hr ⊢; unfold c5;unfold Llaw36_sane at hr;refine go ?_;obtain ⟨y8,ehy8,hr⟩:=bN hr G18_eq;by_cases c9 : y8 = true
 ·replace hr:=ifNb hr
  obtain ⟨_,hz10,hr⟩:=bs hr;obtain rfl:=Option.some.inj hz10
  replace hr:=ifNb hr
  obtain ⟨_,hz11,hr⟩:=bs hr;obtain rfl:=Option.some.inj hz11
  replace hr:=ifNb hr
  obtain ⟨_,hz12,hr⟩:=bs hr;obtain rfl:=Option.some.inj hz12;refine go ?_;exact fin hr
 ·replace hr:=ifPb hr
  obtain ⟨_,hz13,hr⟩:=bs hr;obtain ⟨y14,ehy14,hz13⟩:=bN hz13 G18_eq;obtain rfl:=Option.some.inj hz13;by_cases c15 : y14 = true
  ·replace hr:=ifPb hr
   obtain ⟨_,hz16,hr⟩:=bs hr;obtain ⟨y17,ehy17,hz16⟩:=bN hz16 G17_eq;obtain rfl:=Option.some.inj hz16;by_cases c18 : y17 = true
   ·replace hr:=ifPb hr
    obtain ⟨_,hz19,hr⟩:=bs hr;obtain ⟨_,ehy20,hz19⟩:=bN hz19 G19_eq;obtain rfl:=Option.some.inj hz19;refine go ?_;exact fin hr
   ·replace hr:=ifNb hr
    obtain ⟨_,hz21,hr⟩:=bs hr;obtain rfl:=Option.some.inj hz21;refine go ?_;exact fin hr
  ·replace hr:=ifNb hr
   obtain ⟨_,hz22,hr⟩:=bs hr;obtain rfl:=Option.some.inj hz22
   replace hr:=ifNb hr
   obtain ⟨_,hz23,hr⟩:=bs hr;obtain rfl:=Option.some.inj hz23;refine go ?_;exact fin hr
theorem w6 : Walk tt G [] (fun _=>[]) Tryd.f6 K6:=by
 refine .of [] true body6 Tryd.ntmps6 fun T hO hT a0 x hr=>⟨by simp,?_⟩
 simp only [tabAll] at hT; simp only at hr ⊢; unfold c6;unfold Lmill_New at hr;refine go ?_;exact fin hr
theorem w8 : Walk tt G [] (fun _=>[]) Tryd.f8 K8:=by
 refine .of [] true body8 Tryd.ntmps8 fun T hO hT a0 x hr=>⟨by simp,?_⟩
 simp only [tabAll] at hT; simp only at hr ⊢; unfold c8;unfold Lmade_Script at hr;refine goR ?_;exact fin hr
theorem w11 : Walk tt G [] (fun _=>[]) Tryd.f11 K11:=by
 refine .of [(1000004,⟨[5],[],[]⟩)] false body11 Tryd.ntmps11 fun T hO hT ⟨a0,a1⟩ x hr=>⟨by simp,?_⟩
 simp only [tabAll] at hT; simp only at hr ⊢; unfold c11;unfold Lmill_Mod at hr;refine go ?_;obtain ⟨_,hr⟩:=bC hr;refine go ?_;refine ee_seq_J hr (fun (s : Int)=>match s with | p2=>(⟨(und 5++([.one (.v (.int .i64 p2))]++(und 9)) : List PV),([] : Boxes)⟩ : ASt)) (fun (s : Int)=>match s with | p2=>Lmill_Mod_k1 p2) ?_ ?_
 ·rintro p2 hk5
  change Lmill_Mod_k1 p2 = _ at hk5
  refine nst ?_;unfold Lmill_Mod_k1 at hk5;refine ee_seq_regJ rfl (kq:=⟨[5],[],[]⟩) rfl (by simp [joinSt, *]; rfl) (by simp [*]; rfl) ?_;refine go ?_;exact fin hk5
 ·intro J5
  by_cases c6 : (a0).tmod a1 < 0
  ·replace hr:=ifP hr
   refine go ?_;exact jn 1000004 (J5 (IntKind.i64.wrap (((a0).tmod a1) + a1)) hr)
  ·replace hr:=ifN hr
   refine go ?_;exact jn 1000004 (J5 ((a0).tmod a1) hr)
theorem w20 : Walk tt G [] (fun _=>[]) Tryd.f20 K20:=by
 refine .of [] false body20 Tryd.ntmps20 fun T hO hT a0 x hr=>⟨by simp,?_⟩
 simp only [tabAll] at hT; simp only at hr ⊢; unfold c20;unfold Lmill_Deck_Left at hr;refine go ?_;exact fin hr
theorem w9 : Walk tt G [(11,K11.G),(20,K20.G)] (fun _=>[]) Tryd.f9 K9:=by
 refine .of [] false body9 Tryd.ntmps9 fun T hO hT ⟨a0,a1⟩ x hr=>⟨by simp,?_⟩
 simp only [tabAll] at hT; simp only at hr ⊢; unfold c9;unfold Lmill_Deck_Next at hr;refine go ?_;obtain ⟨y4,ehy4,hr⟩:=bN hr G20_eq;refine go ?_;by_cases c5 : y4.1 = true
 ·replace hr:=ifN hr
  refine go ?_;obtain ⟨_,⟨_,_,_⟩,hr⟩:=bI hr;obtain ⟨_,ehy7,hr⟩:=bN hr G11_eq;refine go ?_;exact fin hr
 ·replace hr:=ifP hr
  refine go ?_;exact fin hr
theorem w7 : Walk tt G [(8,K8.G),(9,K9.G)] (fun _=>[]) Tryd.f7 K7:=by
 refine .of [(5,⟨[0,4,5,6,15,16,17],[4,5,35,49,1000000],[(5,some 1,49,35),(5,some 4,35,37)]⟩),(1000021,⟨[4,5],[4,5,35,49,67,1000000],[]⟩)] false body7 Tryd.ntmps7 fun T hO hT ⟨a0,a1⟩ x hr=>⟨by simp,?_⟩
 simp only [tabAll] at hT; simp only at hr ⊢; unfold c7;unfold Lmill_Plan at hr;refine goR ?_;obtain ⟨y44,ehy44,hr⟩:=bN hr G9_eq;refine goR ?_;refine lp 5 (fun (⟨p17,p18,p19,p20,p21⟩ : Int×Int×Tlightclientmill_Deck×(List Tapi_Input)×(List Tapi_Coin))=>⟨([.ptr 1000000 0 0 0 2]++(und 3++([.ptr 4 0 0 0 7,.ptr 5 0 0 0 7,.one (.v (.int .i64 p17))]++(und 8++([.one (.slice .no (List.map eS_I_u8 a1)),.one (.v (.int .i64 (a1.length : Int))),.one (.v (.int .i64 p18))]++(und 85))))) : List PV),([(4,⟨0,7,[[.v (.int .u32 0),.slice .nil [],.slice .nil [],.v (.int .u32 0),.slice .nil [],.v (.int .i64 0),.v (.int .i64 0)]],false,false⟩),(5,⟨0,7,[[.v (.int .u32 1),.ms 49 0 0 (p20.length) 35,.slice .nil [],.v (.int .u32 (IntKind.u32.wrap (y44.1))),.ms 35 0 0 (p21.length) 37,.v (.int .i64 0),.v (.int .i64 0)]],false,false⟩),(35,⟨0,37,List.map eapi_Coin p21,false,true⟩),(49,⟨0,35,List.map eapi_Input p20,false,true⟩),(1000000,⟨0,2,[[.slice .no (intsR .i64 p19.1),.v (.int .i64 p19.2)]],false,false⟩)] : Boxes)⟩) hr ?_;rintro ⟨p17,p18,p19,p20,p21⟩ x56r hr56
 simp only [Lmill_Plan_s1] at hr56;unfold b7_1;refine nst ?_;refine goR ?_;by_cases c57 : p18 < (a1.length : Int)
 ·have c57N:=nrm c57
  replace hr56:=ifP hr56
  refine goR ?_;obtain ⟨_,⟨_,_,_⟩,hr56⟩:=bI hr56;refine goR ?_;obtain ⟨_,hr56⟩:=bC hr56;have n1_u61_0 : (p21.length + 1) * 88≤140737488355328:=by omega
  have n2_u61_0 : p21.length + 1≤9223372036854775807:=by omega
  refine goR ?_;obtain ⟨_,ehy62,hr56⟩:=bN hr56 G9_eq;obtain ⟨j63,⟨_,_,_⟩,hr56⟩:=bA hr56;have j63d : j63≤2:=by omega
  obtain ⟨x64,hx64,hr56⟩:=bs hr56;have ghx64:=getE_of hx64;have mhx64 : (intsR .u32 ([4294967295,0,4294967293]))[j63]? = some [.v (.int .u32 x64)]:=by rw [intsR_get,hx64]; rfl
  simp only [intsR_cons,intsR_nil] at mhx64;have mghx64:=getE_of mhx64;obtain ⟨_,hr56⟩:=bC hr56;have n1_u65_0 : (p20.length + 1) * 64≤140737488355328:=by omega
  have n2_u65_0 : p20.length + 1≤9223372036854775807:=by omega
  refine goR ?_;exact bk hr56
 ·have c57N:=nrm c57
  replace hr56:=ifN hr56
  refine goR ?_;obtain ⟨r66,q66,rfl⟩:=ms hr56;refine goR ?_;rintro rfl
  refine goR ?_;unfold Lmill_Plan_k1 at q66;obtain ⟨y67,ehy67,q66⟩:=bN q66 G9_eq;refine goR ?_;obtain ⟨y68,ehy68,q66⟩:=bN q66 G8_eq;obtain ⟨y69,ehy69,q66⟩:=bN q66 G8_eq;refine goR ?_;obtain ⟨y70,ehy70,q66⟩:=bN q66 G9_eq;refine goR ?_;refine ee_J q66 (.normal) (fun (s : Int×Int×(List Tapi_Output)×Tlightclientmill_Deck)=>match s with | (p33,p34,p35,p36)=>(⟨(und 4++([.ptr 4 0 0 0 7,.ptr 5 0 0 0 7]++(und 97)) : List PV),([(4,⟨0,7,[[.v (.int .u32 0),.slice .nil [],.slice .nil [],.v (.int .u32 0),.slice .nil [],.v (.int .i64 0),.v (.int .i64 0)]],false,false⟩),(5,⟨0,7,[[.v (.int .u32 1),.ms 49 0 0 (p20.length) 35,.ms 67 0 0 (p35.length) 2,.v (.int .u32 (IntKind.u32.wrap (y44.1))),.ms 35 0 0 (p21.length) 37,.v (.int .i64 p33),.v (.int .i64 p34)]],false,false⟩),(35,⟨0,37,List.map eapi_Coin p21,false,true⟩),(49,⟨0,35,List.map eapi_Input p20,false,true⟩),(67,⟨0,2,List.map eapi_Output p35,false,true⟩),(1000000,⟨0,2,[[.slice .no (intsR .i64 p36.1),.v (.int .i64 p36.2)]],false,false⟩)] : Boxes)⟩ : ASt)) (fun (s : Int×Int×(List Tapi_Output)×Tlightclientmill_Deck)=>match s with | (p33,p34,p35,p36)=>Lmill_Plan_k2 p20 y44 p21 p33 p34 p35 p36) ?_ ?_
  ·rintro ⟨p33,p34,p35,p36⟩ hk74
   change Lmill_Plan_k2 p20 y44 p21 p33 p34 p35 p36 = _ at hk74
   refine goR ?_;refine nst ?_;unfold Lmill_Plan_k2 at hk74;refine ee_seq_regJ rfl (kq:=⟨[4,5],[4,5,35,49,67,1000000],[]⟩) rfl (by simp [joinSt, *]; rfl) (by simp [*] <;> rfl) ?_;refine goR ?_;exact fin hk74
  ·intro J74
   simp only [pq,reduceCtorEq] at J74;rcases eqT (y70.1 = 0) with c75 | c75
   ·replace q66:=ifP q66
    refine goR ?_;exact jn 1000021 (J74 (y67.1,(-1),[(5000,y68),(IntKind.i64.wrap ((IntKind.i64.wrap (p17 - 5000)) - y67.1),y69)],y70.2) q66)
   ·replace q66:=ifN q66
    refine goR ?_;rcases eqT (y70.1 = 1) with c76 | c76
    ·replace q66:=ifP q66
     refine goR ?_;obtain ⟨y77,ehy77,q66⟩:=bN q66 G9_eq;refine goR ?_;exact jn 1000021 (J74 (IntKind.i64.wrap ((IntKind.i64.wrap ((IntKind.i64.wrap (y67.1 + ((IntKind.i64.wrap ((IntKind.i64.wrap (p17 - 5000)) - y67.1),y69).1))) - 301)) - y77.1),1,[(5000,y68),(IntKind.i64.wrap ((IntKind.i64.wrap (p17 - 5000)) - (IntKind.i64.wrap ((IntKind.i64.wrap ((IntKind.i64.wrap (y67.1 + ((IntKind.i64.wrap ((IntKind.i64.wrap (p17 - 5000)) - y67.1),y69).1))) - 301)) - y77.1))),(IntKind.i64.wrap ((IntKind.i64.wrap (p17 - 5000)) - y67.1),y69).2)],y77.2) q66)
    ·replace q66:=ifN q66
     refine goR ?_;exact jn 1000021 (J74 (y67.1,1,[(5000,y68),(IntKind.i64.wrap ((IntKind.i64.wrap (p17 - 5000)) - y67.1),y69)],y70.2) q66)
theorem w74 : Walk tt G [] (fun _=>[]) Tryd.f74 K74:=by
 refine .of [] true body74 Tryd.ntmps74 fun T hO hT ⟨a0,a1⟩ x hr=>⟨by simp,?_⟩
 simp only [tabAll] at hT; simp only at hr ⊢; unfold c74;unfold Lref01_joined at hr;refine go ?_;obtain ⟨⟨_,_⟩,hr⟩:=bC hr;have mf5 : 0≤(IntKind.i64.wrap ((a0.length : Int) + (a1.length : Int))).toNat:=by omega
 have mf6 : (IntKind.i64.wrap ((a0.length : Int) + (a1.length : Int))).toNat≤140737488355328:=by omega
 have mf7 : (IntKind.i64.wrap ((a0.length : Int) + (a1.length : Int))).toNat≤9223372036854775807:=by omega
 have mf8 : 0≤IntKind.i64.wrap ((a0.length : Int) + (a1.length : Int)):=by omega
 refine go ?_;obtain ⟨_,hr⟩:=bC hr;have n1_u9_0 : a0.length≤140737488355328:=by omega
 have n2_u9_0 : a0.length≤9223372036854775807:=by omega
 obtain ⟨_,hr⟩:=bC hr;have n1_u10_0 : a0.length + a1.length≤140737488355328:=by omega
 have n2_u10_0 : a0.length + a1.length≤9223372036854775807:=by omega
 refine go ?_;exact fin hr
theorem w75 : Walk tt G [] (fun _=>[]) Tryd.f75 K75:=by
 refine .of [(3,⟨[0,5,10,11],[8],[]⟩)] true body75 Tryd.ntmps75 fun T hO hT ⟨a0,a1⟩ x hr=>⟨by simp,?_⟩
 simp only [tabAll] at hT; simp only at hr ⊢; unfold c75;unfold Lref01_little at hr;refine go ?_;obtain ⟨⟨_,_⟩,hr⟩:=bC hr;have mf15 : (a1).toNat≤140737488355328:=by omega
 have mf16 : (a1).toNat≤9223372036854775807:=by omega
 have mf17 : 0≤a1:=by omega
 refine go ?_;refine lp 3 (fun (⟨p8,p9⟩ : Int×(List Int))=>⟨([.one (.v (.int .u64 a0))]++(und 4++([.one (.ms 8 0 0 (p9.length) 1)]++(und 4++([.one (.v (.int .i64 ((List.replicate ((a1).toNat) 0).length : Int))),.one (.v (.int .i64 p8))]++(und 12))))) : List PV),([(8,⟨0,1,intsR .u8 p9,false,true⟩)] : Boxes)⟩) hr ?_;rintro ⟨p8,p9⟩ x23r hr23
 simp only [Lref01_little_s1] at hr23;unfold b75_1;refine nst ?_;refine go ?_;by_cases c24 : p8 < ((List.replicate ((a1).toNat) 0).length : Int)
 ·have c24N:=nrm c24
  replace hr23:=ifP hr23
  refine go ?_;obtain ⟨_,hr23⟩:=bC hr23;obtain ⟨_,⟨_,_,_⟩,hr23⟩:=bA hr23;refine go ?_;exact bk hr23
 ·have c24N:=nrm c24
  replace hr23:=ifN hr23
  refine go ?_;obtain ⟨r27,q27,rfl⟩:=ms hr23;refine go ?_;rintro rfl
  refine go ?_;unfold Lref01_little_k1 at q27;refine go ?_;exact fin q27
theorem w54 : Walk tt G [(74,K74.G),(75,K75.G)] (fun _=>[]) Tryd.f54 K54:=by
 refine .of [] true body54 Tryd.ntmps54 fun T hO hT ⟨a0,a1⟩ x hr=>⟨by simp,?_⟩
 simp only [tabAll] at hT; simp only at hr ⊢; unfold c54;unfold Lref01_AppendU32 at hr;refine go ?_;obtain ⟨_,ehy3,hr⟩:=bN hr G75_eq;obtain ⟨_,ehy4,hr⟩:=bN hr G74_eq;refine go ?_;exact fin hr
theorem w55 : Walk tt G [(74,K74.G),(75,K75.G)] (fun _=>[]) Tryd.f55 K55:=by
 refine .of [] true body55 Tryd.ntmps55 fun T hO hT ⟨a0,a1⟩ x hr=>⟨by simp,?_⟩
 simp only [tabAll] at hT; simp only at hr ⊢; unfold c55;unfold Lref01_AppendSize at hr;refine go ?_;by_cases c12 : a1 < 253
 ·replace hr:=ifP hr
  refine go ?_;obtain ⟨_,ehy13,hr⟩:=bN hr G75_eq;obtain ⟨_,ehy14,hr⟩:=bN hr G74_eq;refine go ?_;exact fin hr
 ·replace hr:=ifN hr
  refine go ?_;by_cases c15 : a1 < 65536
  ·replace hr:=ifP hr
   refine go ?_;obtain ⟨_,ehy16,hr⟩:=bN hr G75_eq;obtain ⟨_,ehy17,hr⟩:=bN hr G74_eq;obtain ⟨_,ehy18,hr⟩:=bN hr G74_eq;refine go ?_;exact fin hr
  ·replace hr:=ifN hr
   refine go ?_;by_cases c19 : a1 < 4294967296
   ·replace hr:=ifP hr
    refine go ?_;obtain ⟨_,ehy20,hr⟩:=bN hr G75_eq;obtain ⟨_,ehy21,hr⟩:=bN hr G74_eq;obtain ⟨_,ehy22,hr⟩:=bN hr G74_eq;refine go ?_;exact fin hr
   ·replace hr:=ifN hr
    refine go ?_;obtain ⟨_,ehy23,hr⟩:=bN hr G75_eq;obtain ⟨_,ehy24,hr⟩:=bN hr G74_eq;obtain ⟨_,ehy25,hr⟩:=bN hr G74_eq;refine go ?_;exact fin hr
theorem w76 : Walk tt G [(74,K74.G)] (fun _=>[]) Tryd.f76 K76:=by
 refine .of [] true body76 Tryd.ntmps76 fun T hO hT ⟨a0,a1⟩ x hr=>⟨by simp,?_⟩
 simp only [tabAll] at hT; simp only at hr ⊢; unfold c76;unfold Lref01_AppendHash at hr;refine go ?_;obtain ⟨_,ehy2,hr⟩:=bN hr G74_eq;refine go ?_;exact fin hr
theorem w56 : Walk tt G [(54,K54.G),(76,K76.G)] (fun _=>[]) Tryd.f56 K56:=by
 refine .of [] true body56 Tryd.ntmps56 fun T hO hT a0 x hr=>⟨by simp,?_⟩
 simp only [tabAll] at hT; simp only at hr ⊢; unfold c56;unfold Lref09_Point at hr;refine go ?_;obtain ⟨_,ehy3,hr⟩:=bN hr G76_eq;obtain ⟨_,ehy4,hr⟩:=bN hr G54_eq;refine go ?_;exact fin hr
theorem w58 : Walk tt G [(55,K55.G),(74,K74.G)] (fun _=>[]) Tryd.f58 K58:=by
 refine .of [] true body58 Tryd.ntmps58 fun T hO hT ⟨a0,a1⟩ x hr=>⟨by simp,?_⟩
 simp only [tabAll] at hT; simp only at hr ⊢; unfold c58;unfold Lref01_AppendBytes at hr;refine go ?_;obtain ⟨_,ehy3,hr⟩:=bN hr G55_eq;obtain ⟨_,ehy4,hr⟩:=bN hr G74_eq;refine go ?_;exact fin hr
theorem w77 : Walk tt G [(74,K74.G),(75,K75.G)] (fun _=>[]) Tryd.f77 K77:=by
 refine .of [] true body77 Tryd.ntmps77 fun T hO hT ⟨a0,a1⟩ x hr=>⟨by simp,?_⟩
 simp only [tabAll] at hT; simp only at hr ⊢; unfold c77;unfold Lref01_AppendU64 at hr;refine go ?_;obtain ⟨_,ehy3,hr⟩:=bN hr G75_eq;obtain ⟨_,ehy4,hr⟩:=bN hr G74_eq;refine go ?_;exact fin hr
theorem w57 : Walk tt G [(58,K58.G),(77,K77.G)] (fun _=>[]) Tryd.f57 K57:=by
 refine .of [] true body57 Tryd.ntmps57 fun T hO hT a0 x hr=>⟨by simp,?_⟩
 simp only [tabAll] at hT; simp only at hr ⊢; unfold c57;unfold Lref09_Out at hr;refine go ?_;obtain ⟨_,ehy3,hr⟩:=bN hr G77_eq;obtain ⟨_,ehy4,hr⟩:=bN hr G58_eq;refine go ?_;exact fin hr
end Go.Proofs.YtjdoijdjeapekaaDoor
