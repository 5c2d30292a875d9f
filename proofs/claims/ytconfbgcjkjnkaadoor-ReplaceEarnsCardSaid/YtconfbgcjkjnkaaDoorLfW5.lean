import Derived.Test.YtconfbgcjkjnkaaDoorLfK
import Derived.Test.YtconfbgcjkjnkaaDoorCode
namespace Go.Proofs.YtconfbgcjkjnkaaDoor
open Go.RowKit
open Go.Av
open Go.Lc
set_option maxRecDepth 100000
set_option linter.unusedSimpArgs false
set_option linter.unusedVariables false
set_option maxHeartbeats 4000000
theorem w77_16 : Walk tt G [(48, K48_15.G)] (fun _ => []) Tryd.f77 K77_16 := by
 refine .of [(2, ⟨[0, 1, 7, 8], [], []⟩)] false body77 Tryd.ntmps77 fun T hO hT ⟨a0, a1⟩ x hr => ⟨by simp, ?_⟩
 simp only [tabAll] at hT; simp only at hr ⊢; unfold c77
 unfold Lslices_IndexFunc_of__api_Entry_api_Entry__replace_Accept_4 at hr
 refine go ?_
 refine lp 2 (fun (p6 : Int) => ⟨([.one (.slice .no (List.map eapi_Entry a0)), .clo 48 [.ref ([.v (.int .u32 a1.1), .slice .no (List.map eapi_Input a1.2.1), .slice .no (List.map eapi_Output a1.2.2.1), .v (.int .u32 a1.2.2.2)])]] ++ (und 5 ++ ([.one (.v (.int .i64 (a0.length : Int))), .one (.v (.int .i64 p6))] ++ (und 10))) : List PV), ([] : Boxes)⟩) hr ?_
 rintro p6 x17r hr17
 simp only [Lslices_IndexFunc_of__api_Entry_api_Entry__replace_Accept_4_s1] at hr17
 unfold b77_1
 refine nst ?_
 refine go ?_
 by_cases c18 : p6 < (a0.length : Int)
 ·have c18N := nrm c18
  replace hr17 := ifP hr17
  refine go ?_
  obtain ⟨_, ⟨_, _, _⟩, hr17⟩ := bI hr17
  obtain ⟨y20, ehy20, hr17⟩ := bN hr17 G48_15_eq
  refine go ?_
  by_cases c21 : y20 = true
  ·replace hr17 := ifP hr17
   refine go ?_
   exact fin hr17
  ·replace hr17 := ifN hr17
   refine go ?_
   exact bk hr17
 ·have c18N := nrm c18
  replace hr17 := ifN hr17
  refine go ?_
  obtain ⟨r22, q22, rfl⟩ := ms hr17
  refine go ?_
  rintro rfl
  refine go ?_
  unfold Lslices_IndexFunc_of__api_Entry_api_Entry__replace_Accept_4_k1 at q22
  refine go ?_
  exact fin q22
theorem w41_17 : Walk tt G [(77, K77_16.G)] (fun _ => []) Tryd.f41 K41_17 := by
 refine .of [] false body41 Tryd.ntmps41 fun T hO hT ⟨a0, a1⟩ x hr => ⟨by simp, ?_⟩
 simp only [tabAll] at hT; simp only at hr ⊢; unfold c41
 unfold Lslices_ContainsFunc_of__api_Entry_api_Entry__replace_Accept_4 at hr
 refine go ?_
 obtain ⟨_, ehy2, hr⟩ := bN hr G77_16_eq
 refine go ?_
 exact fin hr
theorem w40_18 : Walk tt G [(41, K41_17.G)] (fun _ => []) Tryd.f40 K40_18 := by
 refine .of [] false body40 Tryd.ntmps40 fun T hO hT ⟨a0, a1⟩ x hr => ⟨by simp, ?_⟩
 simp only [tabAll] at hT; simp only at hr ⊢; unfold c40
 unfold Lreplace_Accept_1__replace_Accept_4_p at hr
 refine go ?_
 obtain ⟨_, ehy2, hr⟩ := bN hr G41_17_eq
 refine go ?_
 exact fin hr
theorem w77_19 : Walk tt G [(49, K49.G)] (fun _ => []) Tryd.f77 K77_19 := by
 refine .of [(2, ⟨[0, 1, 7, 8], [], []⟩)] false body77 Tryd.ntmps77 fun T hO hT a0 x hr => ⟨by simp, ?_⟩
 simp only [tabAll] at hT; simp only at hr ⊢; unfold c77
 unfold Lslices_IndexFunc_of__api_Entry_api_Entry__replace_Accept_5 at hr
 refine go ?_
 refine lp 2 (fun (p6 : Int) => ⟨([.one (.slice .no (List.map eapi_Entry a0)), .fn 49] ++ (und 5 ++ ([.one (.v (.int .i64 (a0.length : Int))), .one (.v (.int .i64 p6))] ++ (und 10))) : List PV), ([] : Boxes)⟩) hr ?_
 rintro p6 x17r hr17
 simp only [Lslices_IndexFunc_of__api_Entry_api_Entry__replace_Accept_5_s1] at hr17
 unfold b77_1
 refine nst ?_
 refine go ?_
 by_cases c18 : p6 < (a0.length : Int)
 ·have c18N := nrm c18
  replace hr17 := ifP hr17
  refine go ?_
  obtain ⟨_, ⟨_, _, _⟩, hr17⟩ := bI hr17
  obtain ⟨y20, ehy20, hr17⟩ := bN hr17 G49_eq
  refine go ?_
  by_cases c21 : y20 = true
  ·replace hr17 := ifP hr17
   refine go ?_
   exact fin hr17
  ·replace hr17 := ifN hr17
   refine go ?_
   exact bk hr17
 ·have c18N := nrm c18
  replace hr17 := ifN hr17
  refine go ?_
  obtain ⟨r22, q22, rfl⟩ := ms hr17
  refine go ?_
  rintro rfl
  refine go ?_
  unfold Lslices_IndexFunc_of__api_Entry_api_Entry__replace_Accept_5_k1 at q22
  refine go ?_
  exact fin q22
theorem w41_20 : Walk tt G [(77, K77_19.G)] (fun _ => []) Tryd.f41 K41_20 := by
 refine .of [] false body41 Tryd.ntmps41 fun T hO hT a0 x hr => ⟨by simp, ?_⟩
 simp only [tabAll] at hT; simp only at hr ⊢; unfold c41
 unfold Lslices_ContainsFunc_of__api_Entry_api_Entry__replace_Accept_5 at hr
 refine go ?_
 obtain ⟨_, ehy2, hr⟩ := bN hr G77_19_eq
 refine go ?_
 exact fin hr
theorem w40_21 : Walk tt G [(41, K41_20.G)] (fun _ => []) Tryd.f40 K40_21 := by
 refine .of [] false body40 Tryd.ntmps40 fun T hO hT a0 x hr => ⟨by simp, ?_⟩
 simp only [tabAll] at hT; simp only at hr ⊢; unfold c40
 unfold Lreplace_Accept_1__replace_Accept_5_p at hr
 refine go ?_
 obtain ⟨_, ehy2, hr⟩ := bN hr G41_20_eq
 refine go ?_
 exact fin hr
theorem w44_22 : Walk tt G [] (fun _ => []) Tryd.f44 K44_22 := by
 refine .of [] false body44 Tryd.ntmps44 fun T hO hT ⟨a0, a1⟩ x hr => ⟨by simp, ?_⟩
 simp only [tabAll] at hT; simp only at hr ⊢; unfold c44
 unfold Lreplace_Accept_2_1__r at hr
 refine go ?_
 exact fin hr
theorem w73_23 : Walk tt G [(44, K44_22.G)] (fun _ => []) Tryd.f73 K73_23 := by
 refine .of [(2, ⟨[0, 1, 7, 8], [], []⟩)] false body73 Tryd.ntmps73 fun T hO hT ⟨a0, a1⟩ x hr => ⟨by simp, ?_⟩
 simp only [tabAll] at hT; simp only at hr ⊢; unfold c73
 unfold Lslices_IndexFunc_of__api_Input_api_Input__replace_Accept_2_1 at hr
 refine go ?_
 refine lp 2 (fun (p6 : Int) => ⟨([.one (.slice .no (List.map eapi_Input a0)), .clo 44 [.ref (arC .u8 a1)]] ++ (und 5 ++ ([.one (.v (.int .i64 (a0.length : Int))), .one (.v (.int .i64 p6))] ++ (und 10))) : List PV), ([] : Boxes)⟩) hr ?_
 rintro p6 x17r hr17
 simp only [Lslices_IndexFunc_of__api_Input_api_Input__replace_Accept_2_1_s1] at hr17
 unfold b73_1
 refine nst ?_
 refine go ?_
 by_cases c18 : p6 < (a0.length : Int)
 ·have c18N := nrm c18
  replace hr17 := ifP hr17
  refine go ?_
  obtain ⟨_, ⟨_, _, _⟩, hr17⟩ := bI hr17
  obtain ⟨y20, ehy20, hr17⟩ := bN hr17 G44_22_eq
  refine go ?_
  by_cases c21 : y20 = true
  ·replace hr17 := ifP hr17
   refine go ?_
   exact fin hr17
  ·replace hr17 := ifN hr17
   refine go ?_
   exact bk hr17
 ·have c18N := nrm c18
  replace hr17 := ifN hr17
  refine go ?_
  obtain ⟨r22, q22, rfl⟩ := ms hr17
  refine go ?_
  rintro rfl
  refine go ?_
  unfold Lslices_IndexFunc_of__api_Input_api_Input__replace_Accept_2_1_k1 at q22
  refine go ?_
  exact fin q22
theorem w33_24 : Walk tt G [(73, K73_23.G)] (fun _ => []) Tryd.f33 K33_24 := by
 refine .of [] false body33 Tryd.ntmps33 fun T hO hT ⟨a0, a1⟩ x hr => ⟨by simp, ?_⟩
 simp only [tabAll] at hT; simp only at hr ⊢; unfold c33
 unfold Lslices_ContainsFunc_of__api_Input_api_Input__replace_Accept_2_1 at hr
 refine go ?_
 obtain ⟨_, ehy2, hr⟩ := bN hr G73_23_eq
 refine go ?_
 exact fin hr
theorem w42_25 : Walk tt G [(33, K33_24.G), (43, K43.G)] (fun _ => []) Tryd.f42 K42_25 := by
 refine .of [] false body42 Tryd.ntmps42 fun T hO hT ⟨a0, a1⟩ x hr => ⟨by simp, ?_⟩
 simp only [tabAll] at hT; simp only at hr ⊢; unfold c42
 unfold Lreplace_Accept_2__r at hr
 refine go ?_
 obtain ⟨_, ehy3, hr⟩ := bN hr G43_eq
 refine go ?_
 obtain ⟨_, ehy4, hr⟩ := bN hr G33_24_eq
 refine go ?_
 exact fin hr
theorem w77_26 : Walk tt G [(42, K42_25.G)] (fun _ => []) Tryd.f77 K77_26 := by
 refine .of [(2, ⟨[0, 1, 7, 8], [], []⟩)] false body77 Tryd.ntmps77 fun T hO hT ⟨a0, a1⟩ x hr => ⟨by simp, ?_⟩
 simp only [tabAll] at hT; simp only at hr ⊢; unfold c77
 unfold Lslices_IndexFunc_of__api_Entry_api_Entry__replace_Accept_2 at hr
 refine go ?_
 refine lp 2 (fun (p6 : Int) => ⟨([.one (.slice .no (List.map eapi_Entry a0)), .clo 42 [.ref ([.v (.int .u32 a1.1), .slice .no (List.map eapi_Input a1.2.1), .slice .no (List.map eapi_Output a1.2.2.1), .v (.int .u32 a1.2.2.2)])]] ++ (und 5 ++ ([.one (.v (.int .i64 (a0.length : Int))), .one (.v (.int .i64 p6))] ++ (und 10))) : List PV), ([] : Boxes)⟩) hr ?_
 rintro p6 x17r hr17
 simp only [Lslices_IndexFunc_of__api_Entry_api_Entry__replace_Accept_2_s1] at hr17
 unfold b77_1
 refine nst ?_
 refine go ?_
 by_cases c18 : p6 < (a0.length : Int)
 ·have c18N := nrm c18
  replace hr17 := ifP hr17
  refine go ?_
  obtain ⟨_, ⟨_, _, _⟩, hr17⟩ := bI hr17
  obtain ⟨y20, ehy20, hr17⟩ := bN hr17 G42_25_eq
  refine go ?_
  by_cases c21 : y20 = true
  ·replace hr17 := ifP hr17
   refine go ?_
   exact fin hr17
  ·replace hr17 := ifN hr17
   refine go ?_
   exact bk hr17
 ·have c18N := nrm c18
  replace hr17 := ifN hr17
  refine go ?_
  obtain ⟨r22, q22, rfl⟩ := ms hr17
  refine go ?_
  rintro rfl
  refine go ?_
  unfold Lslices_IndexFunc_of__api_Entry_api_Entry__replace_Accept_2_k1 at q22
  refine go ?_
  exact fin q22
theorem w41_27 : Walk tt G [(77, K77_26.G)] (fun _ => []) Tryd.f41 K41_27 := by
 refine .of [] false body41 Tryd.ntmps41 fun T hO hT ⟨a0, a1⟩ x hr => ⟨by simp, ?_⟩
 simp only [tabAll] at hT; simp only at hr ⊢; unfold c41
 unfold Lslices_ContainsFunc_of__api_Entry_api_Entry__replace_Accept_2 at hr
 refine go ?_
 obtain ⟨_, ehy2, hr⟩ := bN hr G77_26_eq
 refine go ?_
 exact fin hr
theorem w40_28 : Walk tt G [(41, K41_27.G)] (fun _ => []) Tryd.f40 K40_28 := by
 refine .of [] false body40 Tryd.ntmps40 fun T hO hT ⟨a0, a1⟩ x hr => ⟨by simp, ?_⟩
 simp only [tabAll] at hT; simp only at hr ⊢; unfold c40
 unfold Lreplace_Accept_1__replace_Accept_2_p at hr
 refine go ?_
 obtain ⟨_, ehy2, hr⟩ := bN hr G41_27_eq
 refine go ?_
 exact fin hr
theorem w18 : Walk tt G [(39, K39.G), (40, (gor K40_28.G (gor K40_18.G (gor K40_14.G K40_21.G)))), (45, K45.G), (46, K46.G), (50, K50.G)] (fun _ => []) Tryd.f18 K18 := by
 refine .of [] false body18 Tryd.ntmps18 fun T hO hT ⟨a0, a1, a2⟩ x hr => ⟨by simp, ?_⟩
 simp only [tabAll] at hT; simp only at hr ⊢; unfold c18
 unfold Lreplace_Accept at hr
 refine go ?_
 obtain ⟨y10, ehy10, hr⟩ := bN hr G39_eq
 refine go ?_
 rcases eqT (y10 = 0) with c11 | c11
 ·replace hr := ifN hr
  refine go ?_
  obtain ⟨y12, ehy12, hr⟩ := bN hr G45_eq
  refine go ?_
  by_cases c13 : y12 = true
  ·replace hr := ifP hr
   refine go ?_
   exact fin hr
  ·replace hr := ifN hr
   refine go ?_
   obtain ⟨y14, ehy14, hr⟩ := bN hr G46_eq
   by_cases c15 : y14 = true
   ·replace hr := ifNb hr
    obtain ⟨_, hz16, hr⟩ := bs hr
    obtain ⟨y17, hy17, hz16⟩ := bs hz16
    have ehy17 := gor_r (g := K40_28.G) (Con.none (by rintro a h; simp [*] at h)) (gor_r (g := K40_18.G) (Con.none (by rintro a h; simp [*] at h)) (gor_l (h := K40_21.G) (G40_14_eq hy17)))
    simp only [K40_14, nf, nfs] at ehy17
    obtain rfl := Option.some.inj hz16
    refine go ?_
    by_cases c18 : y17 = true
    ·replace hr := ifP hr
     refine go ?_
     exact fin hr
    ·replace hr := ifN hr
     refine go ?_
     obtain ⟨y19, hy19, hr⟩ := bs hr
     have ehy19 := gor_r (g := K40_28.G) (Con.none (by rintro a h; simp [*] at h)) (gor_l (h := (gor K40_14.G K40_21.G)) (G40_18_eq hy19))
     simp only [K40_18, nf, nfs] at ehy19
     refine go ?_
     by_cases c20 : y19 = true
     ·replace hr := ifP hr
      refine go ?_
      exact fin hr
     ·replace hr := ifN hr
      refine go ?_
      obtain ⟨y21, hy21, hr⟩ := bs hr
      have ehy21 := gor_r (g := K40_28.G) (Con.none (by rintro a h; simp [*] at h)) (gor_r (g := K40_18.G) (Con.none (by rintro a h; simp [*] at h)) (gor_r (g := K40_14.G) (Con.none (by rintro a h; simp [*] at h)) (G40_21_eq hy21)))
      simp only [K40_21, nf, nfs] at ehy21
      refine go ?_
      by_cases c22 : y21 = true
      ·replace hr := ifP hr
       refine go ?_
       exact fin hr
      ·replace hr := ifN hr
       refine go ?_
       obtain ⟨y23, hy23, hr⟩ := bs hr
       have ehy23 := gor_l (h := (gor K40_18.G (gor K40_14.G K40_21.G))) (G40_28_eq hy23)
       simp only [K40_28, nf, nfs] at ehy23
       refine go ?_
       by_cases c24 : y23 = true
       ·replace hr := ifP hr
        refine go ?_
        exact fin hr
       ·replace hr := ifN hr
        refine go ?_
        obtain ⟨y25, ehy25, hr⟩ := bN hr G50_eq
        refine go ?_
        by_cases c26 : y25 = true
        ·replace hr := ifN hr
         refine go ?_
         exact fin hr
        ·replace hr := ifP hr
         refine go ?_
         exact fin hr
   ·replace hr := ifPb hr
    obtain ⟨_, hz27, hr⟩ := bs hr
    obtain rfl := Option.some.inj hz27
    refine go ?_
    replace hr := ifP hr
    refine go ?_
    exact fin hr
 ·replace hr := ifP hr
  refine go ?_
  exact fin hr
theorem w8 : Walk tt G [(11, K11.G), (13, K13.G), (18, K18.G)] (fun _ => []) Tryd.f8 K8 := by
 refine .of [] false body8 Tryd.ntmps8 fun T hO hT _ x hr => ⟨by simp, ?_⟩
 simp only [tabAll] at hT; simp only at hr ⊢; unfold c8
 unfold Llaw36_sane at hr
 refine go ?_
 obtain ⟨y8, ehy8, hr⟩ := bN hr G11_eq
 by_cases c9 : y8 = true
 ·replace hr := ifNb hr
  obtain ⟨_, hz10, hr⟩ := bs hr
  obtain rfl := Option.some.inj hz10
  replace hr := ifNb hr
  obtain ⟨_, hz11, hr⟩ := bs hr
  obtain rfl := Option.some.inj hz11
  replace hr := ifNb hr
  obtain ⟨_, hz12, hr⟩ := bs hr
  obtain rfl := Option.some.inj hz12
  refine go ?_
  exact fin hr
 ·replace hr := ifPb hr
  obtain ⟨_, hz13, hr⟩ := bs hr
  obtain ⟨y14, ehy14, hz13⟩ := bN hz13 G11_eq
  obtain rfl := Option.some.inj hz13
  by_cases c15 : y14 = true
  ·replace hr := ifPb hr
   obtain ⟨_, hz16, hr⟩ := bs hr
   obtain ⟨y17, ehy17, hz16⟩ := bN hz16 G13_eq
   obtain rfl := Option.some.inj hz16
   by_cases c18 : y17 = true
   ·replace hr := ifPb hr
    obtain ⟨_, hz19, hr⟩ := bs hr
    obtain ⟨_, ehy20, hz19⟩ := bN hz19 G18_eq
    obtain rfl := Option.some.inj hz19
    refine go ?_
    exact fin hr
   ·replace hr := ifNb hr
    obtain ⟨_, hz21, hr⟩ := bs hr
    obtain rfl := Option.some.inj hz21
    refine go ?_
    exact fin hr
  ·replace hr := ifNb hr
   obtain ⟨_, hz22, hr⟩ := bs hr
   obtain rfl := Option.some.inj hz22
   replace hr := ifNb hr
   obtain ⟨_, hz23, hr⟩ := bs hr
   obtain rfl := Option.some.inj hz23
   refine go ?_
   exact fin hr
theorem w9 : Walk tt G [] (fun _ => []) Tryd.f9 K9 := by
 refine .of [] true body9 Tryd.ntmps9 fun T hO hT a0 x hr => ⟨by simp, ?_⟩
 simp only [tabAll] at hT; simp only at hr ⊢; unfold c9
 unfold Lmill_New at hr
 refine go ?_
 exact fin hr
end Go.Proofs.YtconfbgcjkjnkaaDoor
