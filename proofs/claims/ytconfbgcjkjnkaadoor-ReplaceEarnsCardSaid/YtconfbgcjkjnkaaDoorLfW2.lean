import Derived.Test.YtconfbgcjkjnkaaDoorLfK
import Derived.Test.YtconfbgcjkjnkaaDoorCode
namespace Go.Proofs.YtconfbgcjkjnkaaDoor
open Go.RowKit
open Go.Av
open Go.Lc
set_option maxRecDepth 100000
set_option linter.unusedSimpArgs false
set_option linter.unusedVariables false
set_option maxHeartbeats 4000000
theorem w95 : Walk tt G [(106, K106.G), (107, K107.G), (108, K108.G), (109, K109.G), (110, K110.G)] (fun _ => []) Tryd.f95 K95 := by
 refine .of [(4, ⟨[1, 2, 5, 25, 26, 27], [2, 16], []⟩), (11, ⟨[1, 2, 5, 50, 51, 52], [2, 16], []⟩), (20, ⟨[5, 77, 78, 79], [16], []⟩), (24, ⟨[5, 77, 78, 79, 91, 92, 93], [16], []⟩)] true body95 Tryd.ntmps95 fun T hO hT ⟨a0, a1⟩ x hr => ⟨by simp, ?_⟩
 simp only [tabAll] at hT; simp only at hr ⊢; unfold c95
 unfold Ltx_encode at hr
 refine goA ?_
 obtain ⟨y127, ehy127, hr⟩ := bN hr G106_eq
 refine goA ?_
 obtain ⟨y128, ehy128, hr⟩ := bN hr G107_eq
 obtain ⟨_, hr⟩ := bC hr
 have n1_u129_0 : y127.length + y128.length ≤ 140737488355328 := by omega
 have n2_u129_0 : y127.length + y128.length ≤ 9223372036854775807 := by omega
 refine goA ?_
 refine lp 4 (fun (⟨p16, p17⟩ : Int × (List Int)) => ⟨(und 1 ++ ([.one (.v (.bool a1)), .ptr 2 0 0 0 4] ++ (und 2 ++ ([.one (.ms 16 0 0 (p17.length) 1)] ++ (und 19 ++ ([.one (.slice .no (List.map eapi_Input a0.2.1)), .one (.v (.int .i64 (a0.2.1.length : Int))), .one (.v (.int .i64 p16))] ++ (und 76)))))) : List PV), ([(2, ⟨0, 4, [[.v (.int .u32 a0.1), .slice .no (List.map eapi_Input a0.2.1), .slice .no (List.map eapi_Output a0.2.2.1), .v (.int .u32 a0.2.2.2)]], false, false⟩), (16, ⟨0, 1, intsR .u8 p17, false, true⟩)] : Boxes)⟩) hr ?_
 rintro ⟨p16, p17⟩ x138r hr138
 simp only [Ltx_encode_s1] at hr138
 unfold b95_1
 refine nst ?_
 refine goA ?_
 by_cases c139 : p16 < (a0.2.1.length : Int)
 ·have c139N := nrm c139
  replace hr138 := ifP hr138
  refine goA ?_
  obtain ⟨_, ⟨_, _, _⟩, hr138⟩ := bI hr138
  refine goA ?_
  obtain ⟨y141, ehy141, hr138⟩ := bN hr138 G108_eq
  obtain ⟨_, hr138⟩ := bC hr138
  have n1_u142_0 : p17.length + y141.length ≤ 140737488355328 := by omega
  have n2_u142_0 : p17.length + y141.length ≤ 9223372036854775807 := by omega
  refine goA ?_
  obtain ⟨y143, ehy143, hr138⟩ := bN hr138 G106_eq
  obtain ⟨u144_0, hr138⟩ := bC hr138
  have n1_u144_0 : p17.length + (y141.length + y143.length) ≤ 140737488355328 := by
   have h := u144_0
   try simp at h
   omega
  have n2_u144_0 : p17.length + (y141.length + y143.length) ≤ 9223372036854775807 := by
   have h := u144_0
   try simp at h
   omega
  refine goA ?_
  exact bk hr138
 ·have c139N := nrm c139
  replace hr138 := ifN hr138
  refine goA ?_
  obtain ⟨r145, q145, rfl⟩ := ms hr138
  refine goA ?_
  rintro rfl
  refine goA ?_
  unfold Ltx_encode_k1 at q145
  obtain ⟨y146, ehy146, q145⟩ := bN q145 G107_eq
  obtain ⟨_, q145⟩ := bC q145
  have n1_u147_0 : p17.length + y146.length ≤ 140737488355328 := by omega
  have n2_u147_0 : p17.length + y146.length ≤ 9223372036854775807 := by omega
  refine goA ?_
  refine lp 11 (fun (⟨p37, p38⟩ : Int × (List Int)) => ⟨(und 1 ++ ([.one (.v (.bool a1)), .ptr 2 0 0 0 4] ++ (und 2 ++ ([.one (.ms 16 0 0 (p38.length) 1)] ++ (und 44 ++ ([.one (.slice .no (List.map eapi_Output a0.2.2.1)), .one (.v (.int .i64 (a0.2.2.1.length : Int))), .one (.v (.int .i64 p37))] ++ (und 51)))))) : List PV), ([(2, ⟨0, 4, [[.v (.int .u32 a0.1), .slice .no (List.map eapi_Input a0.2.1), .slice .no (List.map eapi_Output a0.2.2.1), .v (.int .u32 a0.2.2.2)]], false, false⟩), (16, ⟨0, 1, intsR .u8 p38, false, true⟩)] : Boxes)⟩) q145 ?_
  rintro ⟨p37, p38⟩ x156r hr156
  simp only [Ltx_encode_s2] at hr156
  unfold b95_2
  refine nst ?_
  refine goA ?_
  by_cases c157 : p37 < (a0.2.2.1.length : Int)
  ·have c157N := nrm c157
   replace hr156 := ifP hr156
   refine goA ?_
   obtain ⟨_, ⟨_, _, _⟩, hr156⟩ := bI hr156
   refine goA ?_
   obtain ⟨y159, ehy159, hr156⟩ := bN hr156 G109_eq
   obtain ⟨_, hr156⟩ := bC hr156
   have n1_u160_0 : p38.length + y159.length ≤ 140737488355328 := by omega
   have n2_u160_0 : p38.length + y159.length ≤ 9223372036854775807 := by omega
   refine goA ?_
   obtain ⟨y161, ehy161, hr156⟩ := bN hr156 G110_eq
   obtain ⟨u162_0, hr156⟩ := bC hr156
   have n1_u162_0 : p38.length + (y159.length + y161.length) ≤ 140737488355328 := by
    have h := u162_0
    try simp at h
    omega
   have n2_u162_0 : p38.length + (y159.length + y161.length) ≤ 9223372036854775807 := by
    have h := u162_0
    try simp at h
    omega
   refine goA ?_
   exact bk hr156
  ·have c157N := nrm c157
   replace hr156 := ifN hr156
   refine goA ?_
   obtain ⟨r163, q163, rfl⟩ := ms hr156
   refine goA ?_
   rintro rfl
   refine goA ?_
   unfold Ltx_encode_k2 at q163
   obtain ⟨y164, ehy164, q163⟩ := bN q163 G106_eq
   obtain ⟨_, q163⟩ := bC q163
   have n1_u165_0 : p38.length + y164.length ≤ 140737488355328 := by omega
   have n2_u165_0 : p38.length + y164.length ≤ 9223372036854775807 := by omega
   refine goA ?_
   by_cases c166 : a1 = true
   ·replace q163 := ifN q163
    refine goA ?_
    refine lp 20 (fun (⟨p80, p81⟩ : Int × (List Int)) => ⟨(und 5 ++ ([.one (.ms 16 0 0 (p81.length) 1)] ++ (und 71 ++ ([.one (.slice .no (List.map eapi_Input a0.2.1)), .one (.v (.int .i64 (a0.2.1.length : Int))), .one (.v (.int .i64 p80))] ++ (und 24)))) : List PV), ([(16, ⟨0, 1, intsR .u8 p81, false, true⟩)] : Boxes)⟩) q163 ?_
    rintro ⟨p80, p81⟩ x185r hr185
    simp only [Ltx_encode_s3] at hr185
    unfold b95_3
    refine nst ?_
    refine goA ?_
    by_cases c186 : p80 < (a0.2.1.length : Int)
    ·have c186N := nrm c186
     replace hr185 := ifP hr185
     refine goA ?_
     obtain ⟨x187, ⟨_, _, _⟩, hr185⟩ := bI hr185
     refine goA ?_
     obtain ⟨y188, ehy188, hr185⟩ := bN hr185 G107_eq
     obtain ⟨_, hr185⟩ := bC hr185
     have n1_u189_0 : p81.length + y188.length ≤ 140737488355328 := by omega
     have n2_u189_0 : p81.length + y188.length ≤ 9223372036854775807 := by omega
     refine goA ?_
     refine lp 24 (fun (⟨p109, p110⟩ : Int × (List Int)) => ⟨(und 5 ++ ([.one (.ms 16 0 0 (p110.length) 1)] ++ (und 71 ++ ([.one (.slice .no (List.map eapi_Input a0.2.1)), .one (.v (.int .i64 (a0.2.1.length : Int))), .one (.v (.int .i64 p80))] ++ (und 11 ++ ([.one (.slice .no (List.map eS_I_u8 x187.2.2)), .one (.v (.int .i64 (x187.2.2.length : Int))), .one (.v (.int .i64 p109))] ++ (und 10)))))) : List PV), ([(16, ⟨0, 1, intsR .u8 p110, false, true⟩)] : Boxes)⟩) hr185 ?_
     rintro ⟨p109, p110⟩ x196r hr196
     simp only [Ltx_encode_s4] at hr196
     unfold b95_4
     refine nst ?_
     refine goA ?_
     by_cases c197 : p109 < (x187.2.2.length : Int)
     ·have c197N := nrm c197
      replace hr196 := ifP hr196
      refine goA ?_
      obtain ⟨_, ⟨_, _, _⟩, hr196⟩ := bI hr196
      refine goA ?_
      obtain ⟨y199, ehy199, hr196⟩ := bN hr196 G110_eq
      obtain ⟨_, hr196⟩ := bC hr196
      have n1_u200_0 : p110.length + y199.length ≤ 140737488355328 := by omega
      have n2_u200_0 : p110.length + y199.length ≤ 9223372036854775807 := by omega
      refine goA ?_
      exact bk hr196
     ·have c197N := nrm c197
      replace hr196 := ifN hr196
      refine goA ?_
      obtain ⟨r201, q201, rfl⟩ := ms hr196
      refine goA ?_
      rintro rfl
      refine goA ?_
      unfold Ltx_encode_k4 at q201
      refine goA ?_
      exact bk q201
    ·have c186N := nrm c186
     replace hr185 := ifN hr185
     refine goA ?_
     obtain ⟨r202, q202, rfl⟩ := ms hr185
     refine goA ?_
     rintro rfl
     refine goA ?_
     unfold Ltx_encode_k3 at q202
     refine goA ?_
     exact fin q202
   ·replace q163 := ifP q163
    refine goA ?_
    exact fin q163
theorem w75 : Walk tt G [(95, K95.G)] (fun _ => []) Tryd.f75 K75 := by
 refine .of [(4, ⟨[1, 20, 21, 22], [1], []⟩), (10, ⟨[1, 37, 38, 39], [1], []⟩), (15, ⟨[1, 37, 38, 39, 48, 49, 50], [1], []⟩)] false body75 Tryd.ntmps75 fun T hO hT a0 x hr => ⟨by simp, ?_⟩
 simp only [tabAll] at hT; simp only at hr ⊢; unfold c75
 unfold Ltx_fits at hr
 refine go ?_
 by_cases c35 : 64 < (a0.2.1.length : Int)
 ·have c35N := nrm c35
  refine go ?_
  replace hr := ifP hr
  refine go ?_
  exact fin hr
 ·have c35N := nrm c35
  refine go ?_
  by_cases c36 : 64 < (a0.2.2.1.length : Int)
  ·have c36N := nrm c36
   replace hr := ifP hr
   refine go ?_
   exact fin hr
  ·have c36N := nrm c36
   replace hr := ifN hr
   refine go ?_
   refine lp 4 (fun (p4 : Int) => ⟨(und 1 ++ ([.ptr 1 0 0 0 4] ++ (und 18 ++ ([.one (.slice .no (List.map eapi_Output a0.2.2.1)), .one (.v (.int .i64 (a0.2.2.1.length : Int))), .one (.v (.int .i64 p4))] ++ (und 40)))) : List PV), ([(1, ⟨0, 4, [[.v (.int .u32 a0.1), .slice .no (List.map eapi_Input a0.2.1), .slice .no (List.map eapi_Output a0.2.2.1), .v (.int .u32 a0.2.2.2)]], false, false⟩)] : Boxes)⟩) hr ?_
   rintro p4 x43r hr43
   simp only [Ltx_fits_s1] at hr43
   unfold b75_1
   refine nst ?_
   refine go ?_
   by_cases c44 : p4 < (a0.2.2.1.length : Int)
   ·have c44N := nrm c44
    replace hr43 := ifP hr43
    refine go ?_
    obtain ⟨x45, ⟨_, _, _⟩, hr43⟩ := bI hr43
    refine go ?_
    by_cases c46 : x45.1 < 0
    ·refine go ?_
     replace hr43 := ifP hr43
     refine go ?_
     exact fin hr43
    ·refine go ?_
     by_cases c47 : 520 < (x45.2.length : Int)
     ·have c47N := nrm c47
      replace hr43 := ifP hr43
      refine go ?_
      exact fin hr43
     ·have c47N := nrm c47
      replace hr43 := ifN hr43
      refine go ?_
      exact bk hr43
   ·have c44N := nrm c44
    replace hr43 := ifN hr43
    refine go ?_
    obtain ⟨r48, q48, rfl⟩ := ms hr43
    refine go ?_
    rintro rfl
    refine go ?_
    unfold Ltx_fits_k1 at q48
    refine go ?_
    refine lp 10 (fun (p19 : Int) => ⟨(und 1 ++ ([.ptr 1 0 0 0 4] ++ (und 35 ++ ([.one (.slice .no (List.map eapi_Input a0.2.1)), .one (.v (.int .i64 (a0.2.1.length : Int))), .one (.v (.int .i64 p19))] ++ (und 23)))) : List PV), ([(1, ⟨0, 4, [[.v (.int .u32 a0.1), .slice .no (List.map eapi_Input a0.2.1), .slice .no (List.map eapi_Output a0.2.2.1), .v (.int .u32 a0.2.2.2)]], false, false⟩)] : Boxes)⟩) q48 ?_
    rintro p19 x64r hr64
    simp only [Ltx_fits_s2] at hr64
    unfold b75_2
    refine nst ?_
    refine go ?_
    by_cases c65 : p19 < (a0.2.1.length : Int)
    ·have c65N := nrm c65
     replace hr64 := ifP hr64
     refine go ?_
     obtain ⟨x66, ⟨_, _, _⟩, hr64⟩ := bI hr64
     refine go ?_
     by_cases c67 : 32 < (x66.2.2.length : Int)
     ·have c67N := nrm c67
      replace hr64 := ifP hr64
      refine go ?_
      exact fin hr64
     ·have c67N := nrm c67
      replace hr64 := ifN hr64
      refine go ?_
      refine lp 15 (fun (p31 : Int) => ⟨(und 1 ++ ([.ptr 1 0 0 0 4] ++ (und 35 ++ ([.one (.slice .no (List.map eapi_Input a0.2.1)), .one (.v (.int .i64 (a0.2.1.length : Int))), .one (.v (.int .i64 p19))] ++ (und 8 ++ ([.one (.slice .no (List.map eS_I_u8 x66.2.2)), .one (.v (.int .i64 (x66.2.2.length : Int))), .one (.v (.int .i64 p31))] ++ (und 12)))))) : List PV), ([(1, ⟨0, 4, [[.v (.int .u32 a0.1), .slice .no (List.map eapi_Input a0.2.1), .slice .no (List.map eapi_Output a0.2.2.1), .v (.int .u32 a0.2.2.2)]], false, false⟩)] : Boxes)⟩) hr64 ?_
      rintro p31 x73r hr73
      simp only [Ltx_fits_s3] at hr73
      unfold b75_3
      refine nst ?_
      refine go ?_
      by_cases c74 : p31 < (x66.2.2.length : Int)
      ·have c74N := nrm c74
       replace hr73 := ifP hr73
       refine go ?_
       obtain ⟨x75, ⟨_, _, _⟩, hr73⟩ := bI hr73
       refine go ?_
       by_cases c76 : 520 < (x75.length : Int)
       ·have c76N := nrm c76
        replace hr73 := ifP hr73
        refine go ?_
        exact fin hr73
       ·have c76N := nrm c76
        replace hr73 := ifN hr73
        refine go ?_
        exact bk hr73
      ·have c74N := nrm c74
       replace hr73 := ifN hr73
       refine go ?_
       obtain ⟨r77, q77, rfl⟩ := ms hr73
       refine go ?_
       rintro rfl
       refine go ?_
       unfold Ltx_fits_k3 at q77
       refine go ?_
       exact bk q77
    ·have c65N := nrm c65
     replace hr64 := ifN hr64
     refine go ?_
     obtain ⟨r78, q78, rfl⟩ := ms hr64
     refine go ?_
     rintro rfl
     refine go ?_
     unfold Ltx_fits_k2 at q78
     obtain ⟨_, ehy79, q78⟩ := bN q78 G95_eq
     refine go ?_
     exact fin q78
theorem w76 : Walk tt G [] (fun _ => []) Tryd.f76 K76 := by
 refine .of [(3, ⟨[3, 6, 7, 8], [], []⟩)] false body76 Tryd.ntmps76 fun T hO hT a0 x hr => ⟨by simp, ?_⟩
 simp only [tabAll] at hT; simp only at hr ⊢; unfold c76
 unfold Ltx_money at hr
 refine go ?_
 refine lp 3 (fun (⟨p5, p6⟩ : Int × Int) => ⟨(und 3 ++ ([.one (.v (.int .i64 p5))] ++ (und 2 ++ ([.one (.slice .no (List.map eapi_Output a0)), .one (.v (.int .i64 (a0.length : Int))), .one (.v (.int .i64 p6))] ++ (und 13)))) : List PV), ([] : Boxes)⟩) hr ?_
 rintro ⟨p5, p6⟩ x14r hr14
 simp only [Ltx_money_s1] at hr14
 unfold b76_1
 refine nst ?_
 refine go ?_
 by_cases c15 : p6 < (a0.length : Int)
 ·have c15N := nrm c15
  replace hr14 := ifP hr14
  refine go ?_
  obtain ⟨x16, ⟨_, _, _⟩, hr14⟩ := bI hr14
  refine go ?_
  by_cases c17 : IntKind.i64.wrap (2100000000000000 - p5) < x16.1
  ·replace hr14 := ifP hr14
   refine go ?_
   exact fin hr14
  ·replace hr14 := ifN hr14
   refine go ?_
   exact bk hr14
 ·have c15N := nrm c15
  replace hr14 := ifN hr14
  refine go ?_
  obtain ⟨r18, q18, rfl⟩ := ms hr14
  refine go ?_
  rintro rfl
  refine go ?_
  unfold Ltx_money_k1 at q18
  refine go ?_
  exact fin q18
end Go.Proofs.YtconfbgcjkjnkaaDoor
