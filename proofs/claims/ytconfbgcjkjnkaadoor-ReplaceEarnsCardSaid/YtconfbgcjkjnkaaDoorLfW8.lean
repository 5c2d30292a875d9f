import Derived.Test.YtconfbgcjkjnkaaDoorLfK
import Derived.Test.YtconfbgcjkjnkaaDoorCode
namespace Go.Proofs.YtconfbgcjkjnkaaDoor
open Go.RowKit
open Go.Av
open Go.Lc
set_option maxRecDepth 100000
set_option linter.unusedSimpArgs false
set_option linter.unusedVariables false
set_option maxHeartbeats 4000000
theorem w90 : Walk tt G [(101, K101.G), (102, K102.G)] (fun _ => []) Tryd.f90 K90 := by
 refine .of [] true body90 Tryd.ntmps90 fun T hO hT ⟨a0, a1⟩ x hr => ⟨by simp, ?_⟩
 simp only [tabAll] at hT; simp only at hr ⊢; unfold c90
 unfold Lref01_AppendSize at hr
 refine go ?_
 by_cases c12 : a1 < 253
 ·replace hr := ifP hr
  refine go ?_
  obtain ⟨_, ehy13, hr⟩ := bN hr G102_eq
  obtain ⟨_, ehy14, hr⟩ := bN hr G101_eq
  refine go ?_
  exact fin hr
 ·replace hr := ifN hr
  refine go ?_
  by_cases c15 : a1 < 65536
  ·replace hr := ifP hr
   refine go ?_
   obtain ⟨_, ehy16, hr⟩ := bN hr G102_eq
   obtain ⟨_, ehy17, hr⟩ := bN hr G101_eq
   obtain ⟨_, ehy18, hr⟩ := bN hr G101_eq
   refine go ?_
   exact fin hr
  ·replace hr := ifN hr
   refine go ?_
   by_cases c19 : a1 < 4294967296
   ·replace hr := ifP hr
    refine go ?_
    obtain ⟨_, ehy20, hr⟩ := bN hr G102_eq
    obtain ⟨_, ehy21, hr⟩ := bN hr G101_eq
    obtain ⟨_, ehy22, hr⟩ := bN hr G101_eq
    refine go ?_
    exact fin hr
   ·replace hr := ifN hr
    refine go ?_
    obtain ⟨_, ehy23, hr⟩ := bN hr G102_eq
    obtain ⟨_, ehy24, hr⟩ := bN hr G101_eq
    obtain ⟨_, ehy25, hr⟩ := bN hr G101_eq
    refine go ?_
    exact fin hr
theorem w103 : Walk tt G [(101, K101.G)] (fun _ => []) Tryd.f103 K103 := by
 refine .of [] true body103 Tryd.ntmps103 fun T hO hT ⟨a0, a1⟩ x hr => ⟨by simp, ?_⟩
 simp only [tabAll] at hT; simp only at hr ⊢; unfold c103
 unfold Lref01_AppendHash at hr
 refine go ?_
 obtain ⟨_, ehy2, hr⟩ := bN hr G101_eq
 refine go ?_
 exact fin hr
theorem w91 : Walk tt G [(89, K89.G), (103, K103.G)] (fun _ => []) Tryd.f91 K91 := by
 refine .of [] true body91 Tryd.ntmps91 fun T hO hT a0 x hr => ⟨by simp, ?_⟩
 simp only [tabAll] at hT; simp only at hr ⊢; unfold c91
 unfold Lref09_Point at hr
 refine go ?_
 obtain ⟨_, ehy3, hr⟩ := bN hr G103_eq
 obtain ⟨_, ehy4, hr⟩ := bN hr G89_eq
 refine go ?_
 exact fin hr
theorem w93 : Walk tt G [(90, K90.G), (101, K101.G)] (fun _ => []) Tryd.f93 K93 := by
 refine .of [] true body93 Tryd.ntmps93 fun T hO hT ⟨a0, a1⟩ x hr => ⟨by simp, ?_⟩
 simp only [tabAll] at hT; simp only at hr ⊢; unfold c93
 unfold Lref01_AppendBytes at hr
 refine go ?_
 obtain ⟨_, ehy3, hr⟩ := bN hr G90_eq
 obtain ⟨_, ehy4, hr⟩ := bN hr G101_eq
 refine go ?_
 exact fin hr
theorem w104 : Walk tt G [(101, K101.G), (102, K102.G)] (fun _ => []) Tryd.f104 K104 := by
 refine .of [] true body104 Tryd.ntmps104 fun T hO hT ⟨a0, a1⟩ x hr => ⟨by simp, ?_⟩
 simp only [tabAll] at hT; simp only at hr ⊢; unfold c104
 unfold Lref01_AppendU64 at hr
 refine go ?_
 obtain ⟨_, ehy3, hr⟩ := bN hr G102_eq
 obtain ⟨_, ehy4, hr⟩ := bN hr G101_eq
 refine go ?_
 exact fin hr
theorem w92 : Walk tt G [(93, K93.G), (104, K104.G)] (fun _ => []) Tryd.f92 K92 := by
 refine .of [] true body92 Tryd.ntmps92 fun T hO hT a0 x hr => ⟨by simp, ?_⟩
 simp only [tabAll] at hT; simp only at hr ⊢; unfold c92
 unfold Lref09_Out at hr
 refine go ?_
 obtain ⟨_, ehy3, hr⟩ := bN hr G104_eq
 obtain ⟨_, ehy4, hr⟩ := bN hr G93_eq
 refine go ?_
 exact fin hr
theorem w64 : Walk tt G [(89, K89.G), (90, K90.G), (91, K91.G), (92, K92.G), (93, K93.G)] (fun _ => []) Tryd.f64 K64 := by
 refine .of [(4, ⟨[1, 2, 5, 24, 25, 26], [2, 900005], [(5, none, 900005, 0), (5, none, 900005, 1)]⟩), (10, ⟨[1, 2, 5, 46, 47, 48], [2, 44], []⟩), (1000026, ⟨[5], [900005], []⟩), (16, ⟨[1, 5, 62, 63, 64], [900005], [(5, none, 900005, 0), (5, none, 900005, 1)]⟩), (21, ⟨[1, 5, 62, 63, 64, 77, 78, 79], [900005], [(5, none, 900005, 0), (5, none, 900005, 1)]⟩)] true body64 Tryd.ntmps64 fun T hO hT ⟨a0, a1⟩ x hr => ⟨by simp, ?_⟩
 simp only [tabAll] at hT; simp only at hr ⊢; unfold c64
 unfold Lref09_encode at hr
 refine go ?_
 obtain ⟨_, ehy95, hr⟩ := bN hr G89_eq
 refine go ?_
 obtain ⟨_, ehy96, hr⟩ := bN hr G90_eq
 refine go ?_
 refine lp 4 (fun (⟨p13, p14⟩ : Int × (List Int)) => ⟨(und 1 ++ ([.one (.v (.bool a1)), .ptr 2 0 0 0 4] ++ (und 2 ++ ([.one (.ms 900005 0 0 (p14.length) 1)] ++ (und 18 ++ ([.one (.slice .no (List.map eapi_Input a0.2.1)), .one (.v (.int .i64 (a0.2.1.length : Int))), .one (.v (.int .i64 p13))] ++ (und 62)))))) : List PV), ([(2, ⟨0, 4, [[.v (.int .u32 a0.1), .slice .no (List.map eapi_Input a0.2.1), .slice .no (List.map eapi_Output a0.2.2.1), .v (.int .u32 a0.2.2.2)]], false, false⟩), (900005, ⟨0, 1, intsR .u8 p14, false, true⟩)] : Boxes)⟩) hr ?_
 rintro ⟨p13, p14⟩ x104r hr104
 simp only [Lref09_encode_s1] at hr104
 unfold b64_1
 refine nst ?_
 refine go ?_
 by_cases c105 : p13 < (a0.2.1.length : Int)
 ·have c105N := nrm c105
  replace hr104 := ifP hr104
  refine go ?_
  obtain ⟨_, ⟨_, _, _⟩, hr104⟩ := bI hr104
  refine go ?_
  obtain ⟨y107, ehy107, hr104⟩ := bN hr104 G91_eq
  obtain ⟨_, hr104⟩ := bC hr104
  have n1_u108_0 : p14.length + y107.length ≤ 140737488355328 := by omega
  have n2_u108_0 : p14.length + y107.length ≤ 9223372036854775807 := by omega
  obtain ⟨_, ehy109, hr104⟩ := bN hr104 G89_eq
  refine go ?_
  exact bk hr104
 ·have c105N := nrm c105
  replace hr104 := ifN hr104
  refine go ?_
  obtain ⟨r110, q110, rfl⟩ := ms hr104
  refine go ?_
  rintro rfl
  refine go ?_
  unfold Lref09_encode_k1 at q110
  obtain ⟨_, ehy111, q110⟩ := bN q110 G90_eq
  refine go ?_
  refine lp 10 (fun (⟨p28, p29⟩ : Int × (List Int)) => ⟨(und 1 ++ ([.one (.v (.bool a1)), .ptr 2 0 0 0 4] ++ (und 2 ++ ([.one (.ms 44 0 0 (p29.length) 1)] ++ (und 40 ++ ([.one (.slice .no (List.map eapi_Output a0.2.2.1)), .one (.v (.int .i64 (a0.2.2.1.length : Int))), .one (.v (.int .i64 p28))] ++ (und 40)))))) : List PV), ([(2, ⟨0, 4, [[.v (.int .u32 a0.1), .slice .no (List.map eapi_Input a0.2.1), .slice .no (List.map eapi_Output a0.2.2.1), .v (.int .u32 a0.2.2.2)]], false, false⟩), (44, ⟨0, 1, intsR .u8 p29, false, true⟩)] : Boxes)⟩) q110 ?_
  rintro ⟨p28, p29⟩ x118r hr118
  simp only [Lref09_encode_s2] at hr118
  unfold b64_2
  refine nst ?_
  refine go ?_
  by_cases c119 : p28 < (a0.2.2.1.length : Int)
  ·have c119N := nrm c119
   replace hr118 := ifP hr118
   refine go ?_
   obtain ⟨_, ⟨_, _, _⟩, hr118⟩ := bI hr118
   refine go ?_
   obtain ⟨y121, ehy121, hr118⟩ := bN hr118 G92_eq
   obtain ⟨_, hr118⟩ := bC hr118
   have n1_u122_0 : p29.length + y121.length ≤ 140737488355328 := by omega
   have n2_u122_0 : p29.length + y121.length ≤ 9223372036854775807 := by omega
   refine go ?_
   exact bk hr118
  ·have c119N := nrm c119
   replace hr118 := ifN hr118
   refine go ?_
   obtain ⟨r123, q123, rfl⟩ := ms hr118
   refine go ?_
   rintro rfl
   refine go ?_
   unfold Lref09_encode_k2 at q123
   obtain ⟨_, ehy124, q123⟩ := bN q123 G89_eq
   refine go ?_
   refine ee_J q123 (.exit 4) (fun (s : (List Int)) => match s with | p61 => (⟨(und 5 ++ ([.one (.ms 900005 0 0 (p61.length) 1)] ++ (und 83)) : List PV), ([(900005, ⟨0, 1, intsR .u8 p61, false, true⟩)] : Boxes)⟩ : ASt)) (fun (s : (List Int)) => match s with | p61 => Lref09_encode_k3 p61) ?_ ?_
   ·rintro p61 hk142
    change Lref09_encode_k3 p61 = _ at hk142
    refine go ?_
    refine nst ?_
    unfold Lref09_encode_k3 at hk142
    refine ee_seq_regJ rfl (kq := ⟨[5], [900005], []⟩) rfl (by simp [joinSt, *]; rfl) (by simp [*] <;> rfl) ?_
    refine go ?_
    exact fin hk142
   ·intro J142
    simp only [pq, reduceCtorEq] at J142
    refine lp 16 (fun (⟨p60, p61⟩ : Int × (List Int)) => ⟨(und 1 ++ ([.one (.v (.bool a1))] ++ (und 3 ++ ([.one (.ms 900005 0 0 (p61.length) 1)] ++ (und 56 ++ ([.one (.slice .no (List.map eapi_Input a0.2.1)), .one (.v (.int .i64 (a0.2.1.length : Int))), .one (.v (.int .i64 p60))] ++ (und 24)))))) : List PV), ([(900005, ⟨0, 1, intsR .u8 p61, false, true⟩)] : Boxes)⟩) q123 ?_
    rintro ⟨p60, p61⟩ x143r hr143
    simp only [Lref09_encode_s3] at hr143
    unfold b64_3
    refine nst ?_
    refine go ?_
    by_cases c144 : p60 < (a0.2.1.length : Int)
    ·have c144N := nrm c144
     replace hr143 := ifP hr143
     refine go ?_
     obtain ⟨x145, ⟨_, _, _⟩, hr143⟩ := bI hr143
     refine go ?_
     by_cases c146 : a1 = true
     ·replace hr143 := ifN hr143
      refine go ?_
      obtain ⟨_, ehy147, hr143⟩ := bN hr143 G90_eq
      refine go ?_
      refine lp 21 (fun (⟨p82, p83⟩ : Int × (List Int)) => ⟨(und 1 ++ ([.one (.v (.bool a1))] ++ (und 3 ++ ([.one (.ms 900005 0 0 (p83.length) 1)] ++ (und 56 ++ ([.one (.slice .no (List.map eapi_Input a0.2.1)), .one (.v (.int .i64 (a0.2.1.length : Int))), .one (.v (.int .i64 p60))] ++ (und 12 ++ ([.one (.slice .no (List.map eS_I_u8 x145.2.2)), .one (.v (.int .i64 (x145.2.2.length : Int))), .one (.v (.int .i64 p82))] ++ (und 9)))))))) : List PV), ([(900005, ⟨0, 1, intsR .u8 p83, false, true⟩)] : Boxes)⟩) hr143 ?_
      rintro ⟨p82, p83⟩ x153r hr153
      simp only [Lref09_encode_s4] at hr153
      unfold b64_4
      refine nst ?_
      refine go ?_
      by_cases c154 : p82 < (x145.2.2.length : Int)
      ·have c154N := nrm c154
       replace hr153 := ifP hr153
       refine go ?_
       obtain ⟨_, ⟨_, _, _⟩, hr153⟩ := bI hr153
       refine go ?_
       obtain ⟨_, ehy156, hr153⟩ := bN hr153 G93_eq
       refine go ?_
       exact bk hr153
      ·have c154N := nrm c154
       replace hr153 := ifN hr153
       refine go ?_
       obtain ⟨r157, q157, rfl⟩ := ms hr153
       refine go ?_
       rintro rfl
       refine go ?_
       unfold Lref09_encode_k4 at q157
       refine go ?_
       exact bk q157
     ·replace hr143 := ifP hr143
      refine go ?_
      obtain ⟨r158, q158, rfl⟩ := ms hr143
      refine go ?_
      rintro rfl
      refine go ?_
      exact jn 1000026 (J142 p61 q158)
    ·have c144N := nrm c144
     replace hr143 := ifN hr143
     refine go ?_
     obtain ⟨r159, q159, rfl⟩ := ms hr143
     refine go ?_
     rintro rfl
     refine go ?_
     exact jn 1000026 (J142 p61 q159)
end Go.Proofs.YtconfbgcjkjnkaaDoor
