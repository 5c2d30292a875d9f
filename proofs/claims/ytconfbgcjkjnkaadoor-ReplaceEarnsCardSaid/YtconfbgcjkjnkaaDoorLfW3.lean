import Derived.Test.YtconfbgcjkjnkaaDoorLfK
import Derived.Test.YtconfbgcjkjnkaaDoorCode
namespace Go.Proofs.YtconfbgcjkjnkaaDoor
open Go.RowKit
open Go.Av
open Go.Lc
set_option maxRecDepth 100000
set_option linter.unusedSimpArgs false
set_option linter.unusedVariables false
set_option maxHeartbeats 4000000
theorem w39 : Walk tt G [(45, K45.G), (75, K75.G), (76, K76.G)] (fun _ => []) Tryd.f39 K39 := by
 refine .of [(9, ⟨[1, 3, 25, 26, 27], [1, 1000000000023], []⟩)] false body39 Tryd.ntmps39 fun T hO hT a0 x hr => ⟨by simp, ?_⟩
 simp only [tabAll] at hT; simp only at hr ⊢; unfold c39
 unfold Ltx_Check at hr
 refine go ?_
 obtain ⟨y13, ehy13, hr⟩ := bN hr G75_eq
 refine go ?_
 by_cases c14 : y13 = true
 ·replace hr := ifN hr
  refine go ?_
  rcases eqT ((a0.2.1.length : Int) = 0) with c15 | c15
  ·have c15N := nrm c15
   refine go ?_
   replace hr := ifP hr
   refine go ?_
   exact fin hr
  ·have c15N := nrm c15
   refine go ?_
   rcases eqT ((a0.2.2.1.length : Int) = 0) with c16 | c16
   ·have c16N := nrm c16
    replace hr := ifP hr
    refine go ?_
    exact fin hr
   ·have c16N := nrm c16
    replace hr := ifN hr
    refine go ?_
    obtain ⟨y17, ehy17, hr⟩ := bN hr G76_eq
    refine go ?_
    by_cases c18 : y17 = true
    ·replace hr := ifN hr
     refine go ?_
     refine lp 9 (fun (⟨p7, p8⟩ : Int × (List (Tapi_OutPoint × Bool))) => ⟨(und 1 ++ ([.ptr 1 0 0 0 4] ++ (und 1 ++ ([.one (.mp 1000000000023 0)] ++ (und 21 ++ ([.one (.slice .no (List.map eapi_Input a0.2.1)), .one (.v (.int .i64 (a0.2.1.length : Int))), .one (.v (.int .i64 p7))] ++ (und 19)))))) : List PV), ([(1, ⟨0, 4, [[.v (.int .u32 a0.1), .slice .no (List.map eapi_Input a0.2.1), .slice .no (List.map eapi_Output a0.2.2.1), .v (.int .u32 a0.2.2.2)]], false, false⟩), (1000000000023, ⟨0, 6, ((arC .u8 (zA 32)) ++ ((.v (.int .u32 0)) :: [])) :: List.map eM_api_OutPoint_B p8, false, false⟩)] : Boxes)⟩) hr ?_
     rintro ⟨p7, p8⟩ x24r hr24
     simp only [Ltx_Check_s1] at hr24
     unfold b39_1
     refine nst ?_
     refine go ?_
     by_cases c25 : p7 < (a0.2.1.length : Int)
     ·have c25N := nrm c25
      replace hr24 := ifP hr24
      refine go ?_
      obtain ⟨x26, ⟨_, _, _⟩, hr24⟩ := bI hr24
      refine go ?_
      by_cases c27 : (mget x26.1 p8).getD false = true
      ·replace hr24 := ifP hr24
       refine go ?_
       exact fin hr24
      ·replace hr24 := ifN hr24
       refine go ?_
       exact bk hr24
     ·have c25N := nrm c25
      replace hr24 := ifN hr24
      refine go ?_
      obtain ⟨r28, q28, rfl⟩ := ms hr24
      refine go ?_
      rintro rfl
      refine go ?_
      unfold Ltx_Check_k1 at q28
      refine go ?_
      by_cases c29 : (mget (zA 32, 4294967295) p8).getD false = true
      ·replace q28 := ifPb q28
       obtain ⟨_, hz30, q28⟩ := bs q28
       obtain ⟨y31, ehy31, hz30⟩ := bN hz30 G45_eq
       obtain rfl := Option.some.inj hz30
       refine go ?_
       by_cases c32 : y31 = true
       ·replace q28 := ifN q28
        refine go ?_
        exact fin q28
       ·replace q28 := ifP q28
        refine go ?_
        exact fin q28
      ·replace q28 := ifNb q28
       obtain ⟨_, hz33, q28⟩ := bs q28
       obtain rfl := Option.some.inj hz33
       refine go ?_
       replace q28 := ifN q28
       refine go ?_
       exact fin q28
    ·replace hr := ifP hr
     refine go ?_
     exact fin hr
 ·replace hr := ifP hr
  refine go ?_
  exact fin hr
theorem w98 : Walk tt G [(75, K75.G), (95, K95.G)] (fun _ => []) Tryd.f98 K98 := by
 refine .of [] false body98 Tryd.ntmps98 fun T hO hT ⟨a0, a1⟩ x hr => ⟨by simp, ?_⟩
 simp only [tabAll] at hT; simp only at hr ⊢; unfold c98
 unfold Ltx_Encode at hr
 refine go ?_
 obtain ⟨y3, ehy3, hr⟩ := bN hr G75_eq
 refine go ?_
 by_cases c4 : y3 = true
 ·replace hr := ifN hr
  refine go ?_
  obtain ⟨_, ehy5, hr⟩ := bN hr G95_eq
  refine go ?_
  exact fin hr
 ·replace hr := ifP hr
  refine go ?_
  exact fin hr
theorem w122 : Walk tt G [] (fun _ => []) Tryd.f122 K122 := by
 refine .of [(3, ⟨[3, 6, 7, 8], [14], [(3, none, 14, 1)]⟩)] true body122 Tryd.ntmps122 fun T hO hT a0 x hr => ⟨by simp, ?_⟩
 simp only [tabAll] at hT; simp only at hr ⊢; unfold c122
 unfold Lsha_row at hr
 refine go ?_
 refine lp 3 (fun (⟨p7, p8⟩ : Int × (List Int)) => ⟨(und 3 ++ ([.one (.ms 14 0 0 (p8.length) 1)] ++ (und 2 ++ ([.one (.slice .no (List.map eS_I_u8 a0)), .one (.v (.int .i64 (a0.length : Int))), .one (.v (.int .i64 p7))] ++ (und 8)))) : List PV), ([(14, ⟨0, 1, intsR .u8 p8, false, true⟩)] : Boxes)⟩) hr ?_
 rintro ⟨p7, p8⟩ x18r hr18
 simp only [Lsha_row_s1] at hr18
 unfold b122_1
 refine nst ?_
 refine go ?_
 by_cases c19 : p7 < (a0.length : Int)
 ·have c19N := nrm c19
  replace hr18 := ifP hr18
  refine go ?_
  obtain ⟨x20, ⟨_, _, _⟩, hr18⟩ := bI hr18
  refine go ?_
  obtain ⟨_, hr18⟩ := bC hr18
  have n1_u21_0 : p8.length + x20.length ≤ 140737488355328 := by omega
  have n2_u21_0 : p8.length + x20.length ≤ 9223372036854775807 := by omega
  refine go ?_
  exact bk hr18
 ·have c19N := nrm c19
  replace hr18 := ifN hr18
  refine go ?_
  obtain ⟨r22, q22, rfl⟩ := ms hr18
  refine go ?_
  rintro rfl
  refine go ?_
  unfold Lsha_row_k1 at q22
  refine go ?_
  exact fin q22
theorem w123 : Walk tt G [] (fun _ => []) Tryd.f123 K123 := by
 refine .of [(5, ⟨[0, 4, 18], [15], []⟩)] true body123 Tryd.ntmps123 fun T hO hT a0 x hr => ⟨by simp, ?_⟩
 simp only [tabAll] at hT; simp only at hr ⊢; unfold c123
 unfold Lsha_Pad at hr
 refine go ?_
 obtain ⟨⟨_, _, _⟩, hr⟩ := bC hr
 have mf16 : (IntKind.u64.wrap (1 + ((IntKind.u64.wrap (64 - ((IntKind.u64.wrap (a0 + 9)).tmod 64))).tmod 64))).toNat ≤ (IntKind.u64.wrap (9 + ((IntKind.u64.wrap (64 - ((IntKind.u64.wrap (a0 + 9)).tmod 64))).tmod 64))).toNat := by omega
 have mf17 : (IntKind.u64.wrap (9 + ((IntKind.u64.wrap (64 - ((IntKind.u64.wrap (a0 + 9)).tmod 64))).tmod 64))).toNat ≤ 140737488355328 := by omega
 have mf18 : (IntKind.u64.wrap (9 + ((IntKind.u64.wrap (64 - ((IntKind.u64.wrap (a0 + 9)).tmod 64))).tmod 64))).toNat ≤ 9223372036854775807 := by omega
 have mf19 : 0 ≤ IntKind.u64.wrap (9 + ((IntKind.u64.wrap (64 - ((IntKind.u64.wrap (a0 + 9)).tmod 64))).tmod 64)) := by omega
 refine go ?_
 obtain ⟨u20_0, hr⟩ := bC hr
 have su20_0 : 0 < IntKind.u64.wrap (1 + ((IntKind.u64.wrap (64 - ((IntKind.u64.wrap (a0 + 9)).tmod 64))).tmod 64)) := by have h := u20_0; rw [List.length_replicate] at h; omega
 refine go ?_
 refine lp 5 (fun (⟨p9, p10⟩ : Int × (List Int)) => ⟨([.one (.v (.int .u64 a0))] ++ (und 3 ++ ([.one (.ms 15 0 0 (p10.length) 1)] ++ (und 13 ++ ([.one (.v (.int .i64 p9))] ++ (und 14))))) : List PV), ([(15, ⟨0, 1, intsR .u8 p10, false, true⟩)] : Boxes)⟩) hr ?_
 rintro ⟨p9, p10⟩ x26r hr26
 simp only [Lsha_Pad_s1] at hr26
 unfold b123_1
 refine nst ?_
 refine go ?_
 by_cases c27 : p9 < 8
 ·replace hr26 := ifP hr26
  refine go ?_
  obtain ⟨_, hr26⟩ := bC hr26
  obtain ⟨_, hr26⟩ := bC hr26
  have n1_u29_0 : p10.length + 1 ≤ 140737488355328 := by omega
  have n2_u29_0 : p10.length + 1 ≤ 9223372036854775807 := by omega
  refine go ?_
  exact bk hr26
 ·replace hr26 := ifN hr26
  refine go ?_
  obtain ⟨r30, q30, rfl⟩ := ms hr26
  refine go ?_
  rintro rfl
  refine go ?_
  unfold Lsha_Pad_k1 at q30
  refine go ?_
  exact fin q30
theorem w125 : Walk tt G [] (fun _ => []) Tryd.f125 K125 := by
 refine .of [] false body125 Tryd.ntmps125 fun T hO hT ⟨a0, a1⟩ x hr => ⟨by simp, ?_⟩
 simp only [tabAll] at hT; simp only at hr ⊢; unfold c125
 unfold Lmath_bits_RotateLeft32 at hr
 refine go ?_
 obtain ⟨_, hr⟩ := bC hr
 obtain ⟨_, hr⟩ := bC hr
 refine go ?_
 exact fin hr
theorem w127 : Walk tt G [(125, K125.G)] (fun _ => []) Tryd.f127 K127 := by
 refine .of [] false body127 Tryd.ntmps127 fun T hO hT ⟨a0, a1⟩ x hr => ⟨by simp, ?_⟩
 simp only [tabAll] at hT; simp only at hr ⊢; unfold c127
 unfold Lsha_rotr at hr
 refine go ?_
 obtain ⟨_, ehy2, hr⟩ := bN hr G125_eq
 refine go ?_
 exact fin hr
theorem w126 : Walk tt G [(127, K127.G)] (fun _ => []) Tryd.f126 K126 := by
 refine .of [(3, ⟨[1, 2, 3, 9], [1, 2, 3], []⟩), (6, ⟨[1, 2, 3, 4, 9, 12], [1, 2, 3], []⟩), (12, ⟨[2, 3, 6], [2, 3], []⟩)] false body126 Tryd.ntmps126 fun T hO hT a0 x hr => ⟨by simp, ?_⟩
 simp only [tabAll] at hT; simp only at hr ⊢; unfold c126
 unfold Lsha_schedule at hr
 refine go ?_
 refine lp 3 (fun (⟨p20, p21⟩ : Int × (Arr 64)) => ⟨(und 1 ++ ([.ptr 1 0 0 0 64, .ptr 2 0 0 0 64, .ptr 3 0 0 0 64] ++ (und 5 ++ ([.one (.v (.int .i64 p20))] ++ (und 75)))) : List PV), ([(1, ⟨0, 64, [arC .u8 a0], false, false⟩), (2, ⟨0, 64, [arC .u32 (zA 64)], false, false⟩), (3, ⟨0, 64, [arC .u32 p21], false, false⟩)] : Boxes)⟩) hr ?_
 rintro ⟨p20, p21⟩ x106r hr106
 simp only [Lsha_schedule_s1] at hr106
 unfold b126_1
 refine nst ?_
 refine go ?_
 by_cases c107 : p20 < 16
 ·replace hr106 := ifP hr106
  refine go ?_
  refine lp 6 (fun (⟨p77, p78⟩ : Int × (Arr 64)) => ⟨(und 1 ++ ([.ptr 1 0 0 0 64, .ptr 2 0 0 0 64, .ptr 3 0 0 0 64, .one (.v (.int .i64 p20))] ++ (und 4 ++ ([.one (.v (.int .i64 p20))] ++ (und 2 ++ ([.one (.v (.int .i64 p77))] ++ (und 72)))))) : List PV), ([(1, ⟨0, 64, [arC .u8 a0], false, false⟩), (2, ⟨0, 64, [arC .u32 (zA 64)], false, false⟩), (3, ⟨0, 64, [arC .u32 p78], false, false⟩)] : Boxes)⟩) hr106 ?_
  rintro ⟨p77, p78⟩ x118r hr118
  simp only [Lsha_schedule_s3] at hr118
  unfold b126_2
  refine nst ?_
  refine go ?_
  by_cases c119 : p77 < 4
  ·replace hr118 := ifP hr118
   refine go ?_
   obtain ⟨j120, ⟨_, _, _⟩, hr118⟩ := bA hr118
   have j120d : j120 ≤ 63 := by omega
   obtain ⟨j123, ⟨_, _, _⟩, hr118⟩ := bA hr118
   have j123d : j123 ≤ 63 := by omega
   have j120d : j120 ≤ 63 := by omega
   refine go ?_
   exact bk hr118
  ·replace hr118 := ifN hr118
   refine go ?_
   obtain ⟨r127, q127, rfl⟩ := ms hr118
   refine go ?_
   rintro rfl
   refine go ?_
   unfold Lsha_schedule_k3 at q127
   refine go ?_
   exact bk q127
 ·replace hr106 := ifN hr106
  refine go ?_
  obtain ⟨r128, q128, rfl⟩ := ms hr106
  refine go ?_
  rintro rfl
  refine go ?_
  unfold Lsha_schedule_k1 at q128
  refine go ?_
  refine lp 12 (fun (⟨p51, p52⟩ : Int × (Arr 64)) => ⟨(und 2 ++ ([.ptr 2 0 0 0 64, .ptr 3 0 0 0 64] ++ (und 2 ++ ([.one (.v (.int .i64 p51))] ++ (und 78)))) : List PV), ([(2, ⟨0, 64, [arC .u32 (zA 64)], false, false⟩), (3, ⟨0, 64, [arC .u32 p52], false, false⟩)] : Boxes)⟩) q128 ?_
  rintro ⟨p51, p52⟩ x158r hr158
  simp only [Lsha_schedule_s2] at hr158
  unfold b126_3
  refine nst ?_
  refine go ?_
  by_cases c159 : p51 < 64
  ·replace hr158 := ifP hr158
   refine go ?_
   obtain ⟨j160, ⟨_, _, _⟩, hr158⟩ := bA hr158
   have j160d : j160 ≤ 63 := by omega
   obtain ⟨_, ehy163, hr158⟩ := bN hr158 G127_eq
   have j160d : j160 ≤ 63 := by omega
   obtain ⟨_, ehy166, hr158⟩ := bN hr158 G127_eq
   have j160d : j160 ≤ 63 := by omega
   refine go ?_
   obtain ⟨j169, ⟨_, _, _⟩, hr158⟩ := bA hr158
   have j169d : j169 ≤ 63 := by omega
   obtain ⟨_, ehy172, hr158⟩ := bN hr158 G127_eq
   have j169d : j169 ≤ 63 := by omega
   obtain ⟨_, ehy175, hr158⟩ := bN hr158 G127_eq
   have j169d : j169 ≤ 63 := by omega
   refine go ?_
   obtain ⟨j178, ⟨_, _, _⟩, hr158⟩ := bA hr158
   have j178d : j178 ≤ 63 := by omega
   obtain ⟨j181, ⟨_, _, _⟩, hr158⟩ := bA hr158
   have j181d : j181 ≤ 63 := by omega
   obtain ⟨j184, ⟨_, _, _⟩, hr158⟩ := bA hr158
   have j184d : j184 ≤ 63 := by omega
   refine go ?_
   exact bk hr158
  ·replace hr158 := ifN hr158
   refine go ?_
   obtain ⟨r186, q186, rfl⟩ := ms hr158
   refine go ?_
   rintro rfl
   refine go ?_
   unfold Lsha_schedule_k2 at q186
   refine go ?_
   exact fin q186
theorem w124 : Walk tt G [(126, K126.G), (127, K127.G)] (fun _ => []) Tryd.f124 K124 := by
 refine .of [(5, ⟨[2, 4, 5, 6, 7, 8, 9, 10, 11, 12, 13, 35], [2, 4, 5], []⟩)] false body124 Tryd.ntmps124 fun T hO hT ⟨a0, a1⟩ x hr => ⟨by simp, ?_⟩
 simp only [tabAll] at hT; simp only at hr ⊢; unfold c124
 unfold Lsha_Compress at hr
 refine go ?_
 obtain ⟨y47, ehy47, hr⟩ := bN hr G126_eq
 refine go ?_
 refine lp 5 (fun (⟨p24, p25, p26, p27, p28, p29, p30, p31, p32⟩ : Int × Int × Int × Int × Int × Int × Int × Int × Int) => ⟨(und 2 ++ ([.ptr 2 0 0 0 8] ++ (und 1 ++ ([.ptr 4 0 0 0 8, .ptr 5 0 0 0 64, .one (.v (.int .u32 p24)), .one (.v (.int .u32 p25)), .one (.v (.int .u32 p26)), .one (.v (.int .u32 p27)), .one (.v (.int .u32 p28)), .one (.v (.int .u32 p29)), .one (.v (.int .u32 p30)), .one (.v (.int .u32 p31))] ++ (und 21 ++ ([.one (.v (.int .i64 p32))] ++ (und 95)))))) : List PV), ([(2, ⟨0, 8, [arC .u32 a0], false, false⟩), (4, ⟨0, 8, [arC .u32 (zA 8)], false, false⟩), (5, ⟨0, 64, [arC .u32 y47], false, false⟩)] : Boxes)⟩) hr ?_
 rintro ⟨p24, p25, p26, p27, p28, p29, p30, p31, p32⟩ x78r hr78
 simp only [Lsha_Compress_s1] at hr78
 unfold b124_1
 refine nst ?_
 refine go ?_
 by_cases c79 : p32 < 64
 ·replace hr78 := ifP hr78
  refine go ?_
  obtain ⟨_, ehy80, hr78⟩ := bN hr78 G127_eq
  obtain ⟨_, ehy81, hr78⟩ := bN hr78 G127_eq
  obtain ⟨_, ehy82, hr78⟩ := bN hr78 G127_eq
  obtain ⟨j83, ⟨_, _, _⟩, hr78⟩ := bA hr78
  have j83d : j83 ≤ 63 := by omega
  have j83d : j83 ≤ 63 := by omega
  refine go ?_
  obtain ⟨_, ehy88, hr78⟩ := bN hr78 G127_eq
  obtain ⟨_, ehy89, hr78⟩ := bN hr78 G127_eq
  obtain ⟨_, ehy90, hr78⟩ := bN hr78 G127_eq
  refine go ?_
  exact bk hr78
 ·replace hr78 := ifN hr78
  refine go ?_
  obtain ⟨r91, q91, rfl⟩ := ms hr78
  refine go ?_
  rintro rfl
  refine go ?_
  unfold Lsha_Compress_k1 at q91
  refine go ?_
  exact fin q91
end Go.Proofs.YtconfbgcjkjnkaaDoor
