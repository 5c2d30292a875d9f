import Derived.Test.YtconfbgcjkjnkaaDoorLfK
import Derived.Test.YtconfbgcjkjnkaaDoorCode
namespace Go.Proofs.YtconfbgcjkjnkaaDoor
open Go.RowKit
open Go.Av
open Go.Lc
set_option maxRecDepth 100000
set_option linter.unusedSimpArgs false
set_option linter.unusedVariables false
set_option maxHeartbeats 4000000
theorem w114 : Walk tt G [(122, K122.G), (123, K123.G), (124, K124.G)] (fun _ => []) Tryd.f114 K114 := by
 refine .of [(4, ⟨[2, 3, 4, 18, 19], [2, 4, 14], []⟩), (10, ⟨[2, 4, 6, 31], [2, 4, 6], []⟩)] false body114 Tryd.ntmps114 fun T hO hT a0 x hr => ⟨by simp, ?_⟩
 simp only [tabAll] at hT; simp only at hr ⊢; unfold c114
 unfold Lsha_Sum at hr
 refine goADR ?_
 obtain ⟨_, ehy34, hr⟩ := bN hr G123_eq
 obtain ⟨y35, ehy35, hr⟩ := bN hr G122_eq
 refine goADR ?_
 refine lp 4 (fun (⟨p11, p12⟩ : Int × (Arr 8)) => ⟨(und 2 ++ ([.ptr 2 0 0 0 32, .one (.ms 14 0 0 (y35.length) 1), .ptr 4 0 0 0 8] ++ (und 13 ++ ([.one (.v (.int .i64 (IntKind.i64.wrap (((y35.length : Int)).tdiv 64)))), .one (.v (.int .i64 p11))] ++ (und 28)))) : List PV), ([(2, ⟨0, 32, [arC .u8 (zA 32)], false, false⟩), (4, ⟨0, 8, [arC .u32 p12], false, false⟩), (14, ⟨0, 1, intsR .u8 y35, false, true⟩)] : Boxes)⟩) hr ?_
 rintro ⟨p11, p12⟩ x44r hr44
 simp only [Lsha_Sum_s1] at hr44
 unfold b114_1
 refine nst ?_
 refine goADR ?_
 by_cases c45 : p11 < IntKind.i64.wrap (((y35.length : Int)).tdiv 64)
 ·have c45N := nrm c45
  replace hr44 := ifP hr44
  refine goADR ?_
  obtain ⟨⟨_, _⟩, hr44⟩ := bC hr44
  have sf47 : (IntKind.i64.wrap (64 * p11)).toNat ≤ y35.length := by omega
  obtain ⟨_, hr44⟩ := bC hr44
  have fp49 := flat_part (k := .u8) (l := y35) (o := (IntKind.i64.wrap (64 * p11)).toNat) (n := 64) (by omega)
  have fp49l : (IntKind.i64.wrap (64 * p11)).toNat + 64 ≤ y35.length := by omega
  obtain ⟨_, ehy50, hr44⟩ := bN hr44 G124_eq
  refine goADR ?_
  exact bk hr44
 ·have c45N := nrm c45
  replace hr44 := ifN hr44
  refine goADR ?_
  obtain ⟨r51, q51, rfl⟩ := ms hr44
  refine goADR ?_
  rintro rfl
  refine goADR ?_
  unfold Lsha_Sum_k1 at q51
  refine goADR ?_
  refine lp 10 (fun (⟨p23, p24⟩ : Int × (Arr 32)) => ⟨(und 2 ++ ([.ptr 2 0 0 0 32] ++ (und 1 ++ ([.ptr 4 0 0 0 8] ++ (und 1 ++ ([.ptr 6 0 0 0 32] ++ (und 24 ++ ([.one (.v (.int .i64 p23))] ++ (und 16)))))))) : List PV), ([(2, ⟨0, 32, [arC .u8 (zA 32)], false, false⟩), (4, ⟨0, 8, [arC .u32 p12], false, false⟩), (6, ⟨0, 32, [arC .u8 p24], false, false⟩)] : Boxes)⟩) q51 ?_
  rintro ⟨p23, p24⟩ x61r hr61
  simp only [Lsha_Sum_s2] at hr61
  unfold b114_2
  refine nst ?_
  refine goADR ?_
  by_cases c62 : p23 < 32
  ·replace hr61 := ifP hr61
   refine goADR ?_
   obtain ⟨j63, ⟨_, _, _⟩, hr61⟩ := bA hr61
   have j63d : j63 ≤ 7 := by omega
   obtain ⟨_, hr61⟩ := bC hr61
   obtain ⟨j67, ⟨_, _, _⟩, hr61⟩ := bA hr61
   have j67d : j67 ≤ 31 := by omega
   refine goADR ?_
   exact bk hr61
  ·replace hr61 := ifN hr61
   refine goADR ?_
   obtain ⟨r69, q69, rfl⟩ := ms hr61
   refine goADR ?_
   rintro rfl
   refine goADR ?_
   unfold Lsha_Sum_k2 at q69
   refine goADR ?_
   exact fin q69
theorem w99 : Walk tt G [(114, K114.G)] (fun _ => []) Tryd.f99 K99 := by
 refine .of [] false body99 Tryd.ntmps99 fun T hO hT a0 x hr => ⟨by simp, ?_⟩
 simp only [tabAll] at hT; simp only at hr ⊢; unfold c99
 unfold Lsha_Double at hr
 refine go ?_
 obtain ⟨_, ehy3, hr⟩ := bN hr G114_eq
 refine go ?_
 obtain ⟨_, ehy4, hr⟩ := bN hr G114_eq
 refine go ?_
 exact fin hr
theorem w78 : Walk tt G [(98, K98.G), (99, K99.G)] (fun _ => []) Tryd.f78 K78 := by
 refine .of [] false body78 Tryd.ntmps78 fun T hO hT ⟨a0, a1⟩ x hr => ⟨by simp, ?_⟩
 simp only [tabAll] at hT; simp only at hr ⊢; unfold c78
 unfold Ltx_digest at hr
 refine go ?_
 obtain ⟨y3, ehy3, hr⟩ := bN hr G98_eq
 refine go ?_
 rcases eqT (y3.2 = 0) with c4 | c4
 ·replace hr := ifN hr
  refine go ?_
  obtain ⟨_, ehy5, hr⟩ := bN hr G99_eq
  refine go ?_
  exact fin hr
 ·replace hr := ifP hr
  refine go ?_
  exact fin hr
theorem w43 : Walk tt G [(78, K78.G)] (fun _ => []) Tryd.f43 K43 := by
 refine .of [] false body43 Tryd.ntmps43 fun T hO hT a0 x hr => ⟨by simp, ?_⟩
 simp only [tabAll] at hT; simp only at hr ⊢; unfold c43
 unfold Ltx_ID at hr
 refine go ?_
 obtain ⟨_, ehy2, hr⟩ := bN hr G78_eq
 refine go ?_
 exact fin hr
theorem w46 : Walk tt G [] (fun _ => []) Tryd.f46 K46 := by
 refine .of [] false body46 Tryd.ntmps46 fun T hO hT a0 x hr => ⟨by simp, ?_⟩
 simp only [tabAll] at hT; simp only at hr ⊢; unfold c46
 unfold Lreplace_money at hr
 refine go ?_
 by_cases c1 : 0 ≤ a0
 ·refine go ?_
  exact fin hr
 ·refine go ?_
  exact fin hr
theorem w47 : Walk tt G [(46, K46.G)] (fun _ => []) Tryd.f47 K47 := by
 refine .of [] false body47 Tryd.ntmps47 fun T hO hT a0 x hr => ⟨by simp, ?_⟩
 simp only [tabAll] at hT; simp only at hr ⊢; unfold c47
 unfold Lreplace_Accept_3 at hr
 refine go ?_
 obtain ⟨_, ehy2, hr⟩ := bN hr G46_eq
 refine go ?_
 exact fin hr
theorem w49 : Walk tt G [(11, K11.G)] (fun _ => []) Tryd.f49 K49 := by
 refine .of [] false body49 Tryd.ntmps49 fun T hO hT a0 x hr => ⟨by simp, ?_⟩
 simp only [tabAll] at hT; simp only at hr ⊢; unfold c49
 unfold Lreplace_Accept_5 at hr
 refine go ?_
 obtain ⟨_, ehy2, hr⟩ := bN hr G11_eq
 refine go ?_
 exact fin hr
theorem w66 : Walk tt G [(75, K75.G), (95, K95.G)] (fun _ => []) Tryd.f66 K66 := by
 refine .of [] false body66 Tryd.ntmps66 fun T hO hT a0 x hr => ⟨by simp, ?_⟩
 simp only [tabAll] at hT; simp only at hr ⊢; unfold c66
 unfold Ltx_Weight at hr
 refine go ?_
 obtain ⟨y4, ehy4, hr⟩ := bN hr G75_eq
 refine go ?_
 by_cases c5 : y4 = true
 ·replace hr := ifN hr
  refine go ?_
  obtain ⟨_, ehy6, hr⟩ := bN hr G95_eq
  obtain ⟨_, ehy7, hr⟩ := bN hr G95_eq
  refine go ?_
  exact fin hr
 ·replace hr := ifP hr
  refine go ?_
  exact fin hr
theorem w67 : Walk tt G [] (fun _ => []) Tryd.f67 K67 := by
 refine .of [] false body67 Tryd.ntmps67 fun T hO hT ⟨a0, a1⟩ x hr => ⟨by simp, ?_⟩
 simp only [tabAll] at hT; simp only at hr ⊢; unfold c67
 unfold Lbuild_Fee at hr
 refine go ?_
 by_cases c1 : a0 < 0
 ·refine go ?_
  replace hr := ifP hr
  refine go ?_
  exact fin hr
 ·by_cases c2 : 80000 < a0
  ·refine go ?_
   replace hr := ifP hr
   refine go ?_
   exact fin hr
  ·by_cases c3 : a1 < 0
   ·refine go ?_
    replace hr := ifP hr
    refine go ?_
    exact fin hr
   ·refine go ?_
    by_cases c4 : 1048576 < a1
    ·replace hr := ifP hr
     refine go ?_
     exact fin hr
    ·replace hr := ifN hr
     refine go ?_
     exact fin hr
theorem w80 : Walk tt G [] (fun _ => []) Tryd.f80 K80 := by
 refine .of [] false body80 Tryd.ntmps80 fun T hO hT ⟨a0, a1⟩ x hr => ⟨by simp, ?_⟩
 simp only [tabAll] at hT; simp only at hr ⊢; unfold c80
 unfold Lfees_Rate at hr
 refine go ?_
 by_cases c2 : a0 < 0
 ·refine go ?_
  replace hr := ifP hr
  refine go ?_
  exact fin hr
 ·by_cases c3 : 2100000000000000 < a0
  ·refine go ?_
   replace hr := ifP hr
   refine go ?_
   exact fin hr
  ·by_cases c4 : a1 < 1
   ·refine go ?_
    replace hr := ifP hr
    refine go ?_
    exact fin hr
   ·refine go ?_
    by_cases c5 : 80000 < a1
    ·replace hr := ifP hr
     refine go ?_
     exact fin hr
    ·replace hr := ifN hr
     refine go ?_
     obtain ⟨_, hr⟩ := bC hr
     refine go ?_
     exact fin hr
theorem w82 : Walk tt G [(66, K66.G), (80, K80.G)] (fun _ => []) Tryd.f82 K82 := by
 refine .of [] false body82 Tryd.ntmps82 fun T hO hT a0 x hr => ⟨by simp, ?_⟩
 simp only [tabAll] at hT; simp only at hr ⊢; unfold c82
 unfold Lreplace_rateOf at hr
 refine go ?_
 obtain ⟨_, ehy3, hr⟩ := bN hr G66_eq
 obtain ⟨_, ehy4, hr⟩ := bN hr G80_eq
 refine go ?_
 exact fin hr
theorem w81_9 : Walk tt G [(82, K82.G)] (fun _ => []) Tryd.f81 K81_9 := by
 refine .of [] false body81 Tryd.ntmps81 fun T hO hT ⟨a0, a1⟩ x hr => ⟨by simp, ?_⟩
 simp only [tabAll] at hT; simp only at hr ⊢; unfold c81
 unfold Lreplace_enough_1__r at hr
 refine go ?_
 obtain ⟨_, ehy2, hr⟩ := bN hr G82_eq
 refine go ?_
 exact fin hr
theorem w77_10 : Walk tt G [(81, K81_9.G)] (fun _ => []) Tryd.f77 K77_10 := by
 refine .of [(2, ⟨[0, 1, 7, 8], [], []⟩)] false body77 Tryd.ntmps77 fun T hO hT ⟨a0, a1⟩ x hr => ⟨by simp, ?_⟩
 simp only [tabAll] at hT; simp only at hr ⊢; unfold c77
 unfold Lslices_IndexFunc_of__api_Entry_api_Entry__replace_enough_1 at hr
 refine go ?_
 refine lp 2 (fun (p6 : Int) => ⟨([.one (.slice .no (List.map eapi_Entry a0)), .clo 81 [.ref ([.v (.int .i64 a1)])]] ++ (und 5 ++ ([.one (.v (.int .i64 (a0.length : Int))), .one (.v (.int .i64 p6))] ++ (und 10))) : List PV), ([] : Boxes)⟩) hr ?_
 rintro p6 x17r hr17
 simp only [Lslices_IndexFunc_of__api_Entry_api_Entry__replace_enough_1_s1] at hr17
 unfold b77_1
 refine nst ?_
 refine go ?_
 by_cases c18 : p6 < (a0.length : Int)
 ·have c18N := nrm c18
  replace hr17 := ifP hr17
  refine go ?_
  obtain ⟨_, ⟨_, _, _⟩, hr17⟩ := bI hr17
  obtain ⟨y20, ehy20, hr17⟩ := bN hr17 G81_9_eq
  refine go ?_
  by_cases c21 : y20 = true
  ·replace hr17 := ifP hr17
   refine go ?_
   exact fin hr17
  ·replace hr17 := ifN hr17
   refine go ?_
   exact bk hr17
 ·have c18N := nrm c18
  replace hr17 := ifN hr17
  refine go ?_
  obtain ⟨r22, q22, rfl⟩ := ms hr17
  refine go ?_
  rintro rfl
  refine go ?_
  unfold Lslices_IndexFunc_of__api_Entry_api_Entry__replace_enough_1_k1 at q22
  refine go ?_
  exact fin q22
theorem w41_11 : Walk tt G [(77, K77_10.G)] (fun _ => []) Tryd.f41 K41_11 := by
 refine .of [] false body41 Tryd.ntmps41 fun T hO hT ⟨a0, a1⟩ x hr => ⟨by simp, ?_⟩
 simp only [tabAll] at hT; simp only at hr ⊢; unfold c41
 unfold Lslices_ContainsFunc_of__api_Entry_api_Entry__replace_enough_1 at hr
 refine go ?_
 obtain ⟨_, ehy2, hr⟩ := bN hr G77_10_eq
 refine go ?_
 exact fin hr
theorem w50 : Walk tt G [(41, K41_11.G), (66, K66.G), (67, K67.G), (80, K80.G)] (fun _ => []) Tryd.f50 K50 := by
 refine .of [(4, ⟨[0, 2, 7, 8, 18, 19, 20], [], []⟩)] false body50 Tryd.ntmps50 fun T hO hT ⟨a0, a1, a2⟩ x hr => ⟨by simp, ?_⟩
 simp only [tabAll] at hT; simp only at hr ⊢; unfold c50
 unfold Lreplace_enough at hr
 refine go ?_
 obtain ⟨y13, ehy13, hr⟩ := bN hr G66_eq
 refine go ?_
 obtain ⟨_, ehy14, hr⟩ := bN hr G67_eq
 refine go ?_
 refine lp 4 (fun (⟨p7, p8⟩ : Int × Int) => ⟨([.one (.slice .no (List.map eapi_Entry a0))] ++ (und 1 ++ ([.one (.v (.int .i64 a2))] ++ (und 4 ++ ([.one (.v (.int .i64 y13)), .one (.v (.int .i64 p7))] ++ (und 9 ++ ([.one (.slice .no (List.map eapi_Entry a0)), .one (.v (.int .i64 (a0.length : Int))), .one (.v (.int .i64 p8))] ++ (und 21))))))) : List PV), ([] : Boxes)⟩) hr ?_
 rintro ⟨p7, p8⟩ x20r hr20
 simp only [Lreplace_enough_s1] at hr20
 unfold b50_1
 refine nst ?_
 refine go ?_
 by_cases c21 : p8 < (a0.length : Int)
 ·have c21N := nrm c21
  replace hr20 := ifP hr20
  refine go ?_
  obtain ⟨x22, ⟨_, _, _⟩, hr20⟩ := bI hr20
  refine go ?_
  by_cases c23 : p7 < x22.2
  ·replace hr20 := ifP hr20
   refine go ?_
   exact fin hr20
  ·replace hr20 := ifN hr20
   refine go ?_
   exact bk hr20
 ·have c21N := nrm c21
  replace hr20 := ifN hr20
  refine go ?_
  obtain ⟨r24, q24, rfl⟩ := ms hr20
  refine go ?_
  rintro rfl
  refine go ?_
  unfold Lreplace_enough_k1 at q24
  refine go ?_
  by_cases c25 : p7 < 0
  ·replace q24 := ifP q24
   refine go ?_
   exact fin q24
  ·replace q24 := ifN q24
   refine go ?_
   obtain ⟨_, ehy26, q24⟩ := bN q24 G80_eq
   refine go ?_
   obtain ⟨_, ehy27, q24⟩ := bN q24 G41_11_eq
   refine go ?_
   exact fin q24
theorem w77_12 : Walk tt G [(47, K47.G)] (fun _ => []) Tryd.f77 K77_12 := by
 refine .of [(2, ⟨[0, 1, 7, 8], [], []⟩)] false body77 Tryd.ntmps77 fun T hO hT a0 x hr => ⟨by simp, ?_⟩
 simp only [tabAll] at hT; simp only at hr ⊢; unfold c77
 unfold Lslices_IndexFunc_of__api_Entry_api_Entry__replace_Accept_3 at hr
 refine go ?_
 refine lp 2 (fun (p6 : Int) => ⟨([.one (.slice .no (List.map eapi_Entry a0)), .fn 47] ++ (und 5 ++ ([.one (.v (.int .i64 (a0.length : Int))), .one (.v (.int .i64 p6))] ++ (und 10))) : List PV), ([] : Boxes)⟩) hr ?_
 rintro p6 x17r hr17
 simp only [Lslices_IndexFunc_of__api_Entry_api_Entry__replace_Accept_3_s1] at hr17
 unfold b77_1
 refine nst ?_
 refine go ?_
 by_cases c18 : p6 < (a0.length : Int)
 ·have c18N := nrm c18
  replace hr17 := ifP hr17
  refine go ?_
  obtain ⟨_, ⟨_, _, _⟩, hr17⟩ := bI hr17
  obtain ⟨y20, ehy20, hr17⟩ := bN hr17 G47_eq
  refine go ?_
  by_cases c21 : y20 = true
  ·replace hr17 := ifP hr17
   refine go ?_
   exact fin hr17
  ·replace hr17 := ifN hr17
   refine go ?_
   exact bk hr17
 ·have c18N := nrm c18
  replace hr17 := ifN hr17
  refine go ?_
  obtain ⟨r22, q22, rfl⟩ := ms hr17
  refine go ?_
  rintro rfl
  refine go ?_
  unfold Lslices_IndexFunc_of__api_Entry_api_Entry__replace_Accept_3_k1 at q22
  refine go ?_
  exact fin q22
theorem w41_13 : Walk tt G [(77, K77_12.G)] (fun _ => []) Tryd.f41 K41_13 := by
 refine .of [] false body41 Tryd.ntmps41 fun T hO hT a0 x hr => ⟨by simp, ?_⟩
 simp only [tabAll] at hT; simp only at hr ⊢; unfold c41
 unfold Lslices_ContainsFunc_of__api_Entry_api_Entry__replace_Accept_3 at hr
 refine go ?_
 obtain ⟨_, ehy2, hr⟩ := bN hr G77_12_eq
 refine go ?_
 exact fin hr
theorem w40_14 : Walk tt G [(41, K41_13.G)] (fun _ => []) Tryd.f40 K40_14 := by
 refine .of [] false body40 Tryd.ntmps40 fun T hO hT a0 x hr => ⟨by simp, ?_⟩
 simp only [tabAll] at hT; simp only at hr ⊢; unfold c40
 unfold Lreplace_Accept_1__replace_Accept_3_p at hr
 refine go ?_
 obtain ⟨_, ehy2, hr⟩ := bN hr G41_13_eq
 refine go ?_
 exact fin hr
theorem w48_15 : Walk tt G [(13, K13.G)] (fun _ => []) Tryd.f48 K48_15 := by
 refine .of [] false body48 Tryd.ntmps48 fun T hO hT ⟨a0, a1⟩ x hr => ⟨by simp, ?_⟩
 simp only [tabAll] at hT; simp only at hr ⊢; unfold c48
 unfold Lreplace_Accept_4__r at hr
 refine go ?_
 obtain ⟨_, ehy2, hr⟩ := bN hr G13_eq
 refine go ?_
 exact fin hr
end Go.Proofs.YtconfbgcjkjnkaaDoor
