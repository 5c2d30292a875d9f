import Derived.Test.YtconfbgcjkjnkaaDoorLfK
import Derived.Test.YtconfbgcjkjnkaaDoorCode
namespace Go.Proofs.YtconfbgcjkjnkaaDoor
open Go.RowKit
open Go.Av
open Go.Lc
set_option maxRecDepth 100000
set_option linter.unusedSimpArgs false
set_option linter.unusedVariables false
set_option maxHeartbeats 4000000
theorem w34 : Walk tt G [] (fun _ => []) Tryd.f34 K34 := by
 refine .of [] false body34 Tryd.ntmps34 fun T hO hT a0 x hr => ⟨by simp, ?_⟩
 simp only [tabAll] at hT; simp only at hr ⊢; unfold c34
 unfold Lreplace_Signals_1 at hr
 refine go ?_
 exact fin hr
theorem w73_1 : Walk tt G [(34, K34.G)] (fun _ => []) Tryd.f73 K73_1 := by
 refine .of [(2, ⟨[0, 1, 7, 8], [], []⟩)] false body73 Tryd.ntmps73 fun T hO hT a0 x hr => ⟨by simp, ?_⟩
 simp only [tabAll] at hT; simp only at hr ⊢; unfold c73
 unfold Lslices_IndexFunc_of__api_Input_api_Input__replace_Signals_1 at hr
 refine go ?_
 refine lp 2 (fun (p6 : Int) => ⟨([.one (.slice .no (List.map eapi_Input a0)), .fn 34] ++ (und 5 ++ ([.one (.v (.int .i64 (a0.length : Int))), .one (.v (.int .i64 p6))] ++ (und 10))) : List PV), ([] : Boxes)⟩) hr ?_
 rintro p6 x17r hr17
 simp only [Lslices_IndexFunc_of__api_Input_api_Input__replace_Signals_1_s1] at hr17
 unfold b73_1
 refine nst ?_
 refine go ?_
 by_cases c18 : p6 < (a0.length : Int)
 ·have c18N := nrm c18
  replace hr17 := ifP hr17
  refine go ?_
  obtain ⟨_, ⟨_, _, _⟩, hr17⟩ := bI hr17
  obtain ⟨y20, ehy20, hr17⟩ := bN hr17 G34_eq
  refine go ?_
  by_cases c21 : y20 = true
  ·replace hr17 := ifP hr17
   refine go ?_
   exact fin hr17
  ·replace hr17 := ifN hr17
   refine go ?_
   exact bk hr17
 ·have c18N := nrm c18
  replace hr17 := ifN hr17
  refine go ?_
  obtain ⟨r22, q22, rfl⟩ := ms hr17
  refine go ?_
  rintro rfl
  refine go ?_
  unfold Lslices_IndexFunc_of__api_Input_api_Input__replace_Signals_1_k1 at q22
  refine go ?_
  exact fin q22
theorem w33_2 : Walk tt G [(73, K73_1.G)] (fun _ => []) Tryd.f33 K33_2 := by
 refine .of [] false body33 Tryd.ntmps33 fun T hO hT a0 x hr => ⟨by simp, ?_⟩
 simp only [tabAll] at hT; simp only at hr ⊢; unfold c33
 unfold Lslices_ContainsFunc_of__api_Input_api_Input__replace_Signals_1 at hr
 refine go ?_
 obtain ⟨_, ehy2, hr⟩ := bN hr G73_1_eq
 refine go ?_
 exact fin hr
theorem w11 : Walk tt G [(33, K33_2.G)] (fun _ => []) Tryd.f11 K11 := by
 refine .of [] false body11 Tryd.ntmps11 fun T hO hT a0 x hr => ⟨by simp, ?_⟩
 simp only [tabAll] at hT; simp only at hr ⊢; unfold c11
 unfold Lreplace_Signals at hr
 refine go ?_
 obtain ⟨_, ehy2, hr⟩ := bN hr G33_2_eq
 refine go ?_
 exact fin hr
theorem w36_3 : Walk tt G [] (fun _ => []) Tryd.f36 K36_3 := by
 refine .of [] false body36 Tryd.ntmps36 fun T hO hT ⟨a0, a1⟩ x hr => ⟨by simp, ?_⟩
 simp only [tabAll] at hT; simp only at hr ⊢; unfold c36
 unfold Lreplace_Conflict_1_1__r at hr
 refine go ?_
 exact fin hr
theorem w73_4 : Walk tt G [(36, K36_3.G)] (fun _ => []) Tryd.f73 K73_4 := by
 refine .of [(2, ⟨[0, 1, 7, 8], [], []⟩)] false body73 Tryd.ntmps73 fun T hO hT ⟨a0, a1⟩ x hr => ⟨by simp, ?_⟩
 simp only [tabAll] at hT; simp only at hr ⊢; unfold c73
 unfold Lslices_IndexFunc_of__api_Input_api_Input__replace_Conflict_1_1 at hr
 refine go ?_
 refine lp 2 (fun (p6 : Int) => ⟨([.one (.slice .no (List.map eapi_Input a0)), .clo 36 [.ref ((arC .u8 a1.1.1) ++ ((.v (.int .u32 a1.1.2)) :: ((.v (.int .u32 a1.2.1)) :: ((.slice .no (List.map eS_I_u8 a1.2.2)) :: []))))]] ++ (und 5 ++ ([.one (.v (.int .i64 (a0.length : Int))), .one (.v (.int .i64 p6))] ++ (und 10))) : List PV), ([] : Boxes)⟩) hr ?_
 rintro p6 x17r hr17
 simp only [Lslices_IndexFunc_of__api_Input_api_Input__replace_Conflict_1_1_s1] at hr17
 unfold b73_1
 refine nst ?_
 refine go ?_
 by_cases c18 : p6 < (a0.length : Int)
 ·have c18N := nrm c18
  replace hr17 := ifP hr17
  refine go ?_
  obtain ⟨_, ⟨_, _, _⟩, hr17⟩ := bI hr17
  obtain ⟨y20, ehy20, hr17⟩ := bN hr17 G36_3_eq
  refine go ?_
  by_cases c21 : y20 = true
  ·replace hr17 := ifP hr17
   refine go ?_
   exact fin hr17
  ·replace hr17 := ifN hr17
   refine go ?_
   exact bk hr17
 ·have c18N := nrm c18
  replace hr17 := ifN hr17
  refine go ?_
  obtain ⟨r22, q22, rfl⟩ := ms hr17
  refine go ?_
  rintro rfl
  refine go ?_
  unfold Lslices_IndexFunc_of__api_Input_api_Input__replace_Conflict_1_1_k1 at q22
  refine go ?_
  exact fin q22
theorem w33_5 : Walk tt G [(73, K73_4.G)] (fun _ => []) Tryd.f33 K33_5 := by
 refine .of [] false body33 Tryd.ntmps33 fun T hO hT ⟨a0, a1⟩ x hr => ⟨by simp, ?_⟩
 simp only [tabAll] at hT; simp only at hr ⊢; unfold c33
 unfold Lslices_ContainsFunc_of__api_Input_api_Input__replace_Conflict_1_1 at hr
 refine go ?_
 obtain ⟨_, ehy2, hr⟩ := bN hr G73_4_eq
 refine go ?_
 exact fin hr
theorem w35_6 : Walk tt G [(33, K33_5.G)] (fun _ => []) Tryd.f35 K35_6 := by
 refine .of [] false body35 Tryd.ntmps35 fun T hO hT ⟨a0, a1⟩ x hr => ⟨by simp, ?_⟩
 simp only [tabAll] at hT; simp only at hr ⊢; unfold c35
 unfold Lreplace_Conflict_1__r at hr
 refine go ?_
 obtain ⟨_, ehy2, hr⟩ := bN hr G33_5_eq
 refine go ?_
 exact fin hr
theorem w73_7 : Walk tt G [(35, K35_6.G)] (fun _ => []) Tryd.f73 K73_7 := by
 refine .of [(2, ⟨[0, 1, 7, 8], [], []⟩)] false body73 Tryd.ntmps73 fun T hO hT ⟨a0, a1⟩ x hr => ⟨by simp, ?_⟩
 simp only [tabAll] at hT; simp only at hr ⊢; unfold c73
 unfold Lslices_IndexFunc_of__api_Input_api_Input__replace_Conflict_1 at hr
 refine go ?_
 refine lp 2 (fun (p6 : Int) => ⟨([.one (.slice .no (List.map eapi_Input a0)), .clo 35 [.ref ([.v (.int .u32 a1.1), .slice .no (List.map eapi_Input a1.2.1), .slice .no (List.map eapi_Output a1.2.2.1), .v (.int .u32 a1.2.2.2)])]] ++ (und 5 ++ ([.one (.v (.int .i64 (a0.length : Int))), .one (.v (.int .i64 p6))] ++ (und 10))) : List PV), ([] : Boxes)⟩) hr ?_
 rintro p6 x17r hr17
 simp only [Lslices_IndexFunc_of__api_Input_api_Input__replace_Conflict_1_s1] at hr17
 unfold b73_1
 refine nst ?_
 refine go ?_
 by_cases c18 : p6 < (a0.length : Int)
 ·have c18N := nrm c18
  replace hr17 := ifP hr17
  refine go ?_
  obtain ⟨_, ⟨_, _, _⟩, hr17⟩ := bI hr17
  obtain ⟨y20, ehy20, hr17⟩ := bN hr17 G35_6_eq
  refine go ?_
  by_cases c21 : y20 = true
  ·replace hr17 := ifP hr17
   refine go ?_
   exact fin hr17
  ·replace hr17 := ifN hr17
   refine go ?_
   exact bk hr17
 ·have c18N := nrm c18
  replace hr17 := ifN hr17
  refine go ?_
  obtain ⟨r22, q22, rfl⟩ := ms hr17
  refine go ?_
  rintro rfl
  refine go ?_
  unfold Lslices_IndexFunc_of__api_Input_api_Input__replace_Conflict_1_k1 at q22
  refine go ?_
  exact fin q22
theorem w33_8 : Walk tt G [(73, K73_7.G)] (fun _ => []) Tryd.f33 K33_8 := by
 refine .of [] false body33 Tryd.ntmps33 fun T hO hT ⟨a0, a1⟩ x hr => ⟨by simp, ?_⟩
 simp only [tabAll] at hT; simp only at hr ⊢; unfold c33
 unfold Lslices_ContainsFunc_of__api_Input_api_Input__replace_Conflict_1 at hr
 refine go ?_
 obtain ⟨_, ehy2, hr⟩ := bN hr G73_7_eq
 refine go ?_
 exact fin hr
theorem w13 : Walk tt G [(33, K33_8.G)] (fun _ => []) Tryd.f13 K13 := by
 refine .of [] false body13 Tryd.ntmps13 fun T hO hT ⟨a0, a1⟩ x hr => ⟨by simp, ?_⟩
 simp only [tabAll] at hT; simp only at hr ⊢; unfold c13
 unfold Lreplace_Conflict at hr
 refine go ?_
 obtain ⟨_, ehy2, hr⟩ := bN hr G33_8_eq
 refine go ?_
 exact fin hr
theorem w79 : Walk tt G [] (fun _ => []) Tryd.f79 K79 := by
 refine .of [] false body79 Tryd.ntmps79 fun T hO hT a0 x hr => ⟨by simp, ?_⟩
 simp only [tabAll] at hT; simp only at hr ⊢; unfold c79
 unfold Ltx_null at hr
 refine go ?_
 exact fin hr
theorem w45 : Walk tt G [(79, K79.G)] (fun _ => []) Tryd.f45 K45 := by
 refine .of [] false body45 Tryd.ntmps45 fun T hO hT a0 x hr => ⟨by simp, ?_⟩
 simp only [tabAll] at hT; simp only at hr ⊢; unfold c45
 unfold Ltx_Coinbase at hr
 refine go ?_
 rcases eqT ((a0.2.1.length : Int) = 1) with c4 | c4
 ·have c4N := nrm c4
  replace hr := ifPb hr
  obtain ⟨_, hz5, hr⟩ := bs hr
  obtain ⟨_, hx6, hz5⟩ := bs hz5
  have hx6c := getE_of hx6
  obtain ⟨_, ehy7, hz5⟩ := bN hz5 G79_eq
  obtain rfl := Option.some.inj hz5
  refine go ?_
  exact fin hr
 ·have c4N := nrm c4
  replace hr := ifNb hr
  obtain ⟨_, hz8, hr⟩ := bs hr
  obtain rfl := Option.some.inj hz8
  refine go ?_
  exact fin hr
theorem w115 : Walk tt G [] (fun _ => []) Tryd.f115 K115 := by
 refine .of [] true body115 Tryd.ntmps115 fun T hO hT ⟨a0, a1⟩ x hr => ⟨by simp, ?_⟩
 simp only [tabAll] at hT; simp only at hr ⊢; unfold c115
 unfold Lcodec_extend at hr
 refine go ?_
 obtain ⟨⟨_, _⟩, hr⟩ := bC hr
 have mf5 : 0 ≤ (IntKind.i64.wrap ((a0.length : Int) + (a1.length : Int))).toNat := by omega
 have mf6 : (IntKind.i64.wrap ((a0.length : Int) + (a1.length : Int))).toNat ≤ 140737488355328 := by omega
 have mf7 : (IntKind.i64.wrap ((a0.length : Int) + (a1.length : Int))).toNat ≤ 9223372036854775807 := by omega
 have mf8 : 0 ≤ IntKind.i64.wrap ((a0.length : Int) + (a1.length : Int)) := by omega
 refine go ?_
 obtain ⟨_, hr⟩ := bC hr
 have n1_u9_0 : a0.length ≤ 140737488355328 := by omega
 have n2_u9_0 : a0.length ≤ 9223372036854775807 := by omega
 refine go ?_
 obtain ⟨_, hr⟩ := bC hr
 have n1_u10_0 : a0.length + a1.length ≤ 140737488355328 := by omega
 have n2_u10_0 : a0.length + a1.length ≤ 9223372036854775807 := by omega
 refine go ?_
 exact fin hr
theorem w116 : Walk tt G [] (fun _ => []) Tryd.f116 K116 := by
 refine .of [(3, ⟨[0, 5, 9, 10], [8], []⟩)] true body116 Tryd.ntmps116 fun T hO hT ⟨a0, a1⟩ x hr => ⟨by simp, ?_⟩
 simp only [tabAll] at hT; simp only at hr ⊢; unfold c116
 unfold Lcodec_lowest at hr
 refine go ?_
 obtain ⟨⟨_, _⟩, hr⟩ := bC hr
 have mf15 : (a1).toNat ≤ 140737488355328 := by omega
 have mf16 : (a1).toNat ≤ 9223372036854775807 := by omega
 have mf17 : 0 ≤ a1 := by omega
 refine go ?_
 refine lp 3 (fun (⟨p8, p9⟩ : Int × (List Int)) => ⟨([.one (.v (.int .u64 a0))] ++ (und 4 ++ ([.one (.ms 8 0 0 (p9.length) 1)] ++ (und 3 ++ ([.one (.v (.int .i64 a1)), .one (.v (.int .i64 p8))] ++ (und 12))))) : List PV), ([(8, ⟨0, 1, intsR .u8 p9, false, true⟩)] : Boxes)⟩) hr ?_
 rintro ⟨p8, p9⟩ x23r hr23
 simp only [Lcodec_lowest_s1] at hr23
 unfold b116_1
 refine nst ?_
 refine go ?_
 by_cases c24 : p8 < a1
 ·replace hr23 := ifP hr23
  refine go ?_
  obtain ⟨_, hr23⟩ := bC hr23
  obtain ⟨_, ⟨_, _, _⟩, hr23⟩ := bA hr23
  refine go ?_
  exact bk hr23
 ·replace hr23 := ifN hr23
  refine go ?_
  obtain ⟨r27, q27, rfl⟩ := ms hr23
  refine go ?_
  rintro rfl
  refine go ?_
  unfold Lcodec_lowest_k1 at q27
  refine go ?_
  exact fin q27
theorem w106 : Walk tt G [(115, K115.G), (116, K116.G)] (fun _ => []) Tryd.f106 K106 := by
 refine .of [] true body106 Tryd.ntmps106 fun T hO hT ⟨a0, a1⟩ x hr => ⟨by simp, ?_⟩
 simp only [tabAll] at hT; simp only at hr ⊢; unfold c106
 unfold Lcodec_AppendU32 at hr
 refine go ?_
 obtain ⟨_, ehy3, hr⟩ := bN hr G116_eq
 obtain ⟨_, ehy4, hr⟩ := bN hr G115_eq
 refine go ?_
 exact fin hr
theorem w109 : Walk tt G [(115, K115.G), (116, K116.G)] (fun _ => []) Tryd.f109 K109 := by
 refine .of [] true body109 Tryd.ntmps109 fun T hO hT ⟨a0, a1⟩ x hr => ⟨by simp, ?_⟩
 simp only [tabAll] at hT; simp only at hr ⊢; unfold c109
 unfold Lcodec_AppendU64 at hr
 refine go ?_
 obtain ⟨_, ehy3, hr⟩ := bN hr G116_eq
 obtain ⟨_, ehy4, hr⟩ := bN hr G115_eq
 refine go ?_
 exact fin hr
theorem w117 : Walk tt G [(115, K115.G), (116, K116.G)] (fun _ => []) Tryd.f117 K117 := by
 refine .of [] true body117 Tryd.ntmps117 fun T hO hT ⟨a0, a1⟩ x hr => ⟨by simp, ?_⟩
 simp only [tabAll] at hT; simp only at hr ⊢; unfold c117
 unfold Lcodec_AppendU16 at hr
 refine go ?_
 obtain ⟨_, ehy3, hr⟩ := bN hr G116_eq
 obtain ⟨_, ehy4, hr⟩ := bN hr G115_eq
 refine go ?_
 exact fin hr
theorem w107 : Walk tt G [(106, K106.G), (109, K109.G), (115, K115.G), (117, K117.G)] (fun _ => []) Tryd.f107 K107 := by
 refine .of [] true body107 Tryd.ntmps107 fun T hO hT ⟨a0, a1⟩ x hr => ⟨by simp, ?_⟩
 simp only [tabAll] at hT; simp only at hr ⊢; unfold c107
 unfold Lcodec_AppendSize at hr
 refine go ?_
 by_cases c8 : a1 < 253
 ·replace hr := ifP hr
  refine go ?_
  obtain ⟨_, ehy9, hr⟩ := bN hr G115_eq
  refine go ?_
  exact fin hr
 ·replace hr := ifN hr
  refine go ?_
  by_cases c10 : a1 < 65536
  ·replace hr := ifP hr
   refine go ?_
   obtain ⟨_, ehy11, hr⟩ := bN hr G115_eq
   obtain ⟨_, ehy12, hr⟩ := bN hr G117_eq
   refine go ?_
   exact fin hr
  ·replace hr := ifN hr
   refine go ?_
   by_cases c13 : a1 < 4294967296
   ·replace hr := ifP hr
    refine go ?_
    obtain ⟨_, ehy14, hr⟩ := bN hr G115_eq
    obtain ⟨_, ehy15, hr⟩ := bN hr G106_eq
    refine go ?_
    exact fin hr
   ·replace hr := ifN hr
    refine go ?_
    obtain ⟨_, ehy16, hr⟩ := bN hr G115_eq
    obtain ⟨_, ehy17, hr⟩ := bN hr G109_eq
    refine go ?_
    exact fin hr
theorem w118 : Walk tt G [(115, K115.G)] (fun _ => []) Tryd.f118 K118 := by
 refine .of [] true body118 Tryd.ntmps118 fun T hO hT ⟨a0, a1⟩ x hr => ⟨by simp, ?_⟩
 simp only [tabAll] at hT; simp only at hr ⊢; unfold c118
 unfold Lcodec_AppendHash at hr
 refine go ?_
 obtain ⟨_, ehy2, hr⟩ := bN hr G115_eq
 refine go ?_
 exact fin hr
theorem w108 : Walk tt G [(106, K106.G), (118, K118.G)] (fun _ => []) Tryd.f108 K108 := by
 refine .of [] true body108 Tryd.ntmps108 fun T hO hT a0 x hr => ⟨by simp, ?_⟩
 simp only [tabAll] at hT; simp only at hr ⊢; unfold c108
 unfold Ltx_Point at hr
 refine go ?_
 obtain ⟨_, ehy3, hr⟩ := bN hr G118_eq
 obtain ⟨_, ehy4, hr⟩ := bN hr G106_eq
 refine go ?_
 exact fin hr
theorem w110 : Walk tt G [(107, K107.G), (115, K115.G)] (fun _ => []) Tryd.f110 K110 := by
 refine .of [] true body110 Tryd.ntmps110 fun T hO hT ⟨a0, a1⟩ x hr => ⟨by simp, ?_⟩
 simp only [tabAll] at hT; simp only at hr ⊢; unfold c110
 unfold Lcodec_AppendBytes at hr
 refine go ?_
 obtain ⟨_, ehy3, hr⟩ := bN hr G107_eq
 obtain ⟨_, ehy4, hr⟩ := bN hr G115_eq
 refine go ?_
 exact fin hr
end Go.Proofs.YtconfbgcjkjnkaaDoor
