import Derived.Test.YtconfbgcjkjnkaaDoorLfK
import Derived.Test.YtconfbgcjkjnkaaDoorCode
namespace Go.Proofs.YtconfbgcjkjnkaaDoor
open Go.RowKit
open Go.Av
open Go.Lc
set_option maxRecDepth 100000
set_option linter.unusedSimpArgs false
set_option linter.unusedVariables false
set_option maxHeartbeats 4000000
theorem w63 : Walk tt G [(64, K64.G)] (fun _ => []) Tryd.f63 K63 := by
 refine .of [(4, ⟨[1, 20, 21, 22], [1], []⟩), (10, ⟨[1, 37, 38, 39], [1], []⟩), (15, ⟨[1, 37, 38, 39, 48, 49, 50], [1], []⟩)] false body63 Tryd.ntmps63 fun T hO hT a0 x hr => ⟨by simp, ?_⟩
 simp only [tabAll] at hT; simp only at hr ⊢; unfold c63
 unfold Lref09_Fits at hr
 refine go ?_
 by_cases c35 : 64 < (a0.2.1.length : Int)
 ·have c35N := nrm c35
  refine go ?_
  replace hr := ifP hr
  refine go ?_
  exact fin hr
 ·have c35N := nrm c35
  refine go ?_
  by_cases c36 : 64 < (a0.2.2.1.length : Int)
  ·have c36N := nrm c36
   replace hr := ifP hr
   refine go ?_
   exact fin hr
  ·have c36N := nrm c36
   replace hr := ifN hr
   refine go ?_
   refine lp 4 (fun (p4 : Int) => ⟨(und 1 ++ ([.ptr 1 0 0 0 4] ++ (und 18 ++ ([.one (.slice .no (List.map eapi_Output a0.2.2.1)), .one (.v (.int .i64 (a0.2.2.1.length : Int))), .one (.v (.int .i64 p4))] ++ (und 40)))) : List PV), ([(1, ⟨0, 4, [[.v (.int .u32 a0.1), .slice .no (List.map eapi_Input a0.2.1), .slice .no (List.map eapi_Output a0.2.2.1), .v (.int .u32 a0.2.2.2)]], false, false⟩)] : Boxes)⟩) hr ?_
   rintro p4 x43r hr43
   simp only [Lref09_Fits_s1] at hr43
   unfold b63_1
   refine nst ?_
   refine go ?_
   by_cases c44 : p4 < (a0.2.2.1.length : Int)
   ·have c44N := nrm c44
    replace hr43 := ifP hr43
    refine go ?_
    obtain ⟨x45, ⟨_, _, _⟩, hr43⟩ := bI hr43
    refine go ?_
    by_cases c46 : x45.1 < 0
    ·refine go ?_
     replace hr43 := ifP hr43
     refine go ?_
     exact fin hr43
    ·refine go ?_
     by_cases c47 : 520 < (x45.2.length : Int)
     ·have c47N := nrm c47
      replace hr43 := ifP hr43
      refine go ?_
      exact fin hr43
     ·have c47N := nrm c47
      replace hr43 := ifN hr43
      refine go ?_
      exact bk hr43
   ·have c44N := nrm c44
    replace hr43 := ifN hr43
    refine go ?_
    obtain ⟨r48, q48, rfl⟩ := ms hr43
    refine go ?_
    rintro rfl
    refine go ?_
    unfold Lref09_Fits_k1 at q48
    refine go ?_
    refine lp 10 (fun (p19 : Int) => ⟨(und 1 ++ ([.ptr 1 0 0 0 4] ++ (und 35 ++ ([.one (.slice .no (List.map eapi_Input a0.2.1)), .one (.v (.int .i64 (a0.2.1.length : Int))), .one (.v (.int .i64 p19))] ++ (und 23)))) : List PV), ([(1, ⟨0, 4, [[.v (.int .u32 a0.1), .slice .no (List.map eapi_Input a0.2.1), .slice .no (List.map eapi_Output a0.2.2.1), .v (.int .u32 a0.2.2.2)]], false, false⟩)] : Boxes)⟩) q48 ?_
    rintro p19 x64r hr64
    simp only [Lref09_Fits_s2] at hr64
    unfold b63_2
    refine nst ?_
    refine go ?_
    by_cases c65 : p19 < (a0.2.1.length : Int)
    ·have c65N := nrm c65
     replace hr64 := ifP hr64
     refine go ?_
     obtain ⟨x66, ⟨_, _, _⟩, hr64⟩ := bI hr64
     refine go ?_
     by_cases c67 : 32 < (x66.2.2.length : Int)
     ·have c67N := nrm c67
      replace hr64 := ifP hr64
      refine go ?_
      exact fin hr64
     ·have c67N := nrm c67
      replace hr64 := ifN hr64
      refine go ?_
      refine lp 15 (fun (p31 : Int) => ⟨(und 1 ++ ([.ptr 1 0 0 0 4] ++ (und 35 ++ ([.one (.slice .no (List.map eapi_Input a0.2.1)), .one (.v (.int .i64 (a0.2.1.length : Int))), .one (.v (.int .i64 p19))] ++ (und 8 ++ ([.one (.slice .no (List.map eS_I_u8 x66.2.2)), .one (.v (.int .i64 (x66.2.2.length : Int))), .one (.v (.int .i64 p31))] ++ (und 12)))))) : List PV), ([(1, ⟨0, 4, [[.v (.int .u32 a0.1), .slice .no (List.map eapi_Input a0.2.1), .slice .no (List.map eapi_Output a0.2.2.1), .v (.int .u32 a0.2.2.2)]], false, false⟩)] : Boxes)⟩) hr64 ?_
      rintro p31 x73r hr73
      simp only [Lref09_Fits_s3] at hr73
      unfold b63_3
      refine nst ?_
      refine go ?_
      by_cases c74 : p31 < (x66.2.2.length : Int)
      ·have c74N := nrm c74
       replace hr73 := ifP hr73
       refine go ?_
       obtain ⟨x75, ⟨_, _, _⟩, hr73⟩ := bI hr73
       refine go ?_
       by_cases c76 : 520 < (x75.length : Int)
       ·have c76N := nrm c76
        replace hr73 := ifP hr73
        refine go ?_
        exact fin hr73
       ·have c76N := nrm c76
        replace hr73 := ifN hr73
        refine go ?_
        exact bk hr73
      ·have c74N := nrm c74
       replace hr73 := ifN hr73
       refine go ?_
       obtain ⟨r77, q77, rfl⟩ := ms hr73
       refine go ?_
       rintro rfl
       refine go ?_
       unfold Lref09_Fits_k3 at q77
       refine go ?_
       exact bk q77
    ·have c65N := nrm c65
     replace hr64 := ifN hr64
     refine go ?_
     obtain ⟨r78, q78, rfl⟩ := ms hr64
     refine go ?_
     rintro rfl
     refine go ?_
     unfold Lref09_Fits_k2 at q78
     obtain ⟨_, ehy79, q78⟩ := bN q78 G64_eq
     refine go ?_
     exact fin q78
theorem w111 : Walk tt G [] (fun _ => []) Tryd.f111 K111 := by
 refine .of [(2, ⟨[0, 3], [5], []⟩), (5, ⟨[0, 3, 4], [5], []⟩)] true body111 Tryd.ntmps111 fun T hO hT a0 x hr => ⟨by simp, ?_⟩
 simp only [tabAll] at hT; simp only at hr ⊢; unfold c111
 unfold Lref03_Pad at hr
 refine go ?_
 refine lp 2 (fun (p4 : (List Int)) => ⟨([.one (.v (.int .u64 a0))] ++ (und 2 ++ ([.one (.ms 5 0 0 (p4.length) 1)] ++ (und 27))) : List PV), ([(5, ⟨0, 1, intsR .u8 p4, false, true⟩)] : Boxes)⟩) hr ?_
 rintro p4 x23r hr23
 simp only [Lref03_Pad_s1] at hr23
 unfold b111_1
 refine nst ?_
 refine go ?_
 rcases eqT ((IntKind.u64.wrap ((IntKind.u64.wrap (a0 + (IntKind.u64.wrap ((p4.length : Int))))) + 8)).tmod 64 = 0) with c24 | c24
 ·have c24N := nrm c24
  replace hr23 := ifN hr23
  refine go ?_
  obtain ⟨r25, q25, rfl⟩ := ms hr23
  refine go ?_
  rintro rfl
  refine go ?_
  unfold Lref03_Pad_k1 at q25
  refine go ?_
  refine lp 5 (fun (⟨p12, p13⟩ : Int × (List Int)) => ⟨([.one (.v (.int .u64 a0))] ++ (und 2 ++ ([.one (.ms 5 0 0 (p13.length) 1), .one (.v (.int .i64 p12))] ++ (und 26))) : List PV), ([(5, ⟨0, 1, intsR .u8 p13, false, true⟩)] : Boxes)⟩) q25 ?_
  rintro ⟨p12, p13⟩ x31r hr31
  simp only [Lref03_Pad_s2] at hr31
  unfold b111_2
  refine nst ?_
  refine go ?_
  by_cases c32 : 0 ≤ p12
  ·replace hr31 := ifP hr31
   refine go ?_
   obtain ⟨_, hr31⟩ := bC hr31
   obtain ⟨_, hr31⟩ := bC hr31
   have n1_u34_0 : p13.length + 1 ≤ 140737488355328 := by omega
   have n2_u34_0 : p13.length + 1 ≤ 9223372036854775807 := by omega
   refine go ?_
   exact bk hr31
  ·replace hr31 := ifN hr31
   refine go ?_
   obtain ⟨r35, q35, rfl⟩ := ms hr31
   refine go ?_
   rintro rfl
   refine go ?_
   unfold Lref03_Pad_k2 at q35
   refine go ?_
   exact fin q35
 ·have c24N := nrm c24
  replace hr23 := ifP hr23
  refine go ?_
  obtain ⟨_, hr23⟩ := bC hr23
  have n1_u36_0 : p4.length + 1 ≤ 140737488355328 := by omega
  have n2_u36_0 : p4.length + 1 ≤ 9223372036854775807 := by omega
  refine go ?_
  exact bk hr23
theorem w112 : Walk tt G [] (fun _ => []) Tryd.f112 K112 := by
 refine .of [] false body112 Tryd.ntmps112 fun T hO hT _ x hr => ⟨by simp, ?_⟩
 simp only [tabAll] at hT; simp only at hr ⊢; unfold c112
 unfold Lref03_Initial at hr
 refine go ?_
 exact fin hr
theorem w121 : Walk tt G [(125, K125.G)] (fun _ => []) Tryd.f121 K121 := by
 refine .of [] false body121 Tryd.ntmps121 fun T hO hT ⟨a0, a1⟩ x hr => ⟨by simp, ?_⟩
 simp only [tabAll] at hT; simp only at hr ⊢; unfold c121
 unfold Lref03_rotr at hr
 refine go ?_
 obtain ⟨_, ehy2, hr⟩ := bN hr G125_eq
 refine go ?_
 exact fin hr
theorem w119 : Walk tt G [(121, K121.G)] (fun _ => []) Tryd.f119 K119 := by
 refine .of [(3, ⟨[1, 2, 3, 4], [1, 2, 3], []⟩), (7, ⟨[2, 3, 5], [2, 3], []⟩)] false body119 Tryd.ntmps119 fun T hO hT a0 x hr => ⟨by simp, ?_⟩
 simp only [tabAll] at hT; simp only at hr ⊢; unfold c119
 unfold Lref03_schedule at hr
 refine go ?_
 refine lp 3 (fun (⟨p12, p13⟩ : Int × (Arr 64)) => ⟨(und 1 ++ ([.ptr 1 0 0 0 64, .ptr 2 0 0 0 64, .ptr 3 0 0 0 64, .one (.v (.int .i64 p12))] ++ (und 92)) : List PV), ([(1, ⟨0, 64, [arC .u8 a0], false, false⟩), (2, ⟨0, 64, [arC .u32 (zA 64)], false, false⟩), (3, ⟨0, 64, [arC .u32 p13], false, false⟩)] : Boxes)⟩) hr ?_
 rintro ⟨p12, p13⟩ x80r hr80
 simp only [Lref03_schedule_s1] at hr80
 unfold b119_1
 refine nst ?_
 refine go ?_
 by_cases c81 : p12 < 16
 ·replace hr80 := ifP hr80
  refine go ?_
  obtain ⟨j82, ⟨_, _, _⟩, hr80⟩ := bA hr80
  have j82d : j82 ≤ 63 := by omega
  obtain ⟨j85, ⟨_, _, _⟩, hr80⟩ := bA hr80
  have j85d : j85 ≤ 63 := by omega
  obtain ⟨j88, ⟨_, _, _⟩, hr80⟩ := bA hr80
  have j88d : j88 ≤ 63 := by omega
  obtain ⟨j91, ⟨_, _, _⟩, hr80⟩ := bA hr80
  have j91d : j91 ≤ 63 := by omega
  obtain ⟨j94, ⟨_, _, _⟩, hr80⟩ := bA hr80
  have j94d : j94 ≤ 63 := by omega
  refine go ?_
  exact bk hr80
 ·replace hr80 := ifN hr80
  refine go ?_
  obtain ⟨r96, q96, rfl⟩ := ms hr80
  refine go ?_
  rintro rfl
  refine go ?_
  unfold Lref03_schedule_k1 at q96
  refine go ?_
  refine lp 7 (fun (⟨p38, p39⟩ : Int × (Arr 64)) => ⟨(und 2 ++ ([.ptr 2 0 0 0 64, .ptr 3 0 0 0 64] ++ (und 1 ++ ([.one (.v (.int .i64 p38))] ++ (und 91)))) : List PV), ([(2, ⟨0, 64, [arC .u32 (zA 64)], false, false⟩), (3, ⟨0, 64, [arC .u32 p39], false, false⟩)] : Boxes)⟩) q96 ?_
  rintro ⟨p38, p39⟩ x126r hr126
  simp only [Lref03_schedule_s2] at hr126
  unfold b119_2
  refine nst ?_
  refine go ?_
  by_cases c127 : p38 < 64
  ·replace hr126 := ifP hr126
   refine go ?_
   obtain ⟨j128, ⟨_, _, _⟩, hr126⟩ := bA hr126
   have j128d : j128 ≤ 63 := by omega
   obtain ⟨_, ehy131, hr126⟩ := bN hr126 G121_eq
   have j128d : j128 ≤ 63 := by omega
   obtain ⟨_, ehy134, hr126⟩ := bN hr126 G121_eq
   have j128d : j128 ≤ 63 := by omega
   refine go ?_
   obtain ⟨j137, ⟨_, _, _⟩, hr126⟩ := bA hr126
   have j137d : j137 ≤ 63 := by omega
   obtain ⟨_, ehy140, hr126⟩ := bN hr126 G121_eq
   have j137d : j137 ≤ 63 := by omega
   obtain ⟨_, ehy143, hr126⟩ := bN hr126 G121_eq
   have j137d : j137 ≤ 63 := by omega
   refine go ?_
   obtain ⟨j146, ⟨_, _, _⟩, hr126⟩ := bA hr126
   have j146d : j146 ≤ 63 := by omega
   obtain ⟨j149, ⟨_, _, _⟩, hr126⟩ := bA hr126
   have j149d : j149 ≤ 63 := by omega
   obtain ⟨j152, ⟨_, _, _⟩, hr126⟩ := bA hr126
   have j152d : j152 ≤ 63 := by omega
   refine go ?_
   exact bk hr126
  ·replace hr126 := ifN hr126
   refine go ?_
   obtain ⟨r154, q154, rfl⟩ := ms hr126
   refine go ?_
   rintro rfl
   refine go ?_
   unfold Lref03_schedule_k2 at q154
   refine go ?_
   exact fin q154
theorem w120 : Walk tt G [] (fun _ => []) Tryd.f120 K120 := by
 refine .of [] false body120 Tryd.ntmps120 fun T hO hT _ x hr => ⟨by simp, ?_⟩
 simp only [tabAll] at hT; simp only at hr ⊢; unfold c120
 unfold Lref03_constants at hr
 refine go ?_
 exact fin hr
theorem w113 : Walk tt G [(119, K119.G), (120, K120.G), (121, K121.G)] (fun _ => []) Tryd.f113 K113 := by
 refine .of [(4, ⟨[2, 4, 5, 6, 7, 8, 9, 10, 11, 12, 13, 14, 15], [2, 4, 5, 6], []⟩)] false body113 Tryd.ntmps113 fun T hO hT ⟨a0, a1⟩ x hr => ⟨by simp, ?_⟩
 simp only [tabAll] at hT; simp only at hr ⊢; unfold c113
 unfold Lref03_Compress at hr
 refine go ?_
 obtain ⟨y48, ehy48, hr⟩ := bN hr G119_eq
 obtain ⟨y49, ehy49, hr⟩ := bN hr G120_eq
 refine go ?_
 refine lp 4 (fun (⟨p25, p26, p27, p28, p29, p30, p31, p32, p33⟩ : Int × Int × Int × Int × Int × Int × Int × Int × Int) => ⟨(und 2 ++ ([.ptr 2 0 0 0 8] ++ (und 1 ++ ([.ptr 4 0 0 0 8, .ptr 5 0 0 0 64, .ptr 6 0 0 0 64, .one (.v (.int .u32 p25)), .one (.v (.int .u32 p26)), .one (.v (.int .u32 p27)), .one (.v (.int .u32 p28)), .one (.v (.int .u32 p29)), .one (.v (.int .u32 p30)), .one (.v (.int .u32 p31)), .one (.v (.int .u32 p32)), .one (.v (.int .i64 p33))] ++ (und 117)))) : List PV), ([(2, ⟨0, 8, [arC .u32 a0], false, false⟩), (4, ⟨0, 8, [arC .u32 (zA 8)], false, false⟩), (5, ⟨0, 64, [arC .u32 y48], false, false⟩), (6, ⟨0, 64, [arC .u32 y49], false, false⟩)] : Boxes)⟩) hr ?_
 rintro ⟨p25, p26, p27, p28, p29, p30, p31, p32, p33⟩ x80r hr80
 simp only [Lref03_Compress_s1] at hr80
 unfold b113_1
 refine nst ?_
 refine go ?_
 by_cases c81 : p33 < 64
 ·replace hr80 := ifP hr80
  refine go ?_
  obtain ⟨_, ehy82, hr80⟩ := bN hr80 G121_eq
  obtain ⟨_, ehy83, hr80⟩ := bN hr80 G121_eq
  obtain ⟨_, ehy84, hr80⟩ := bN hr80 G121_eq
  obtain ⟨j85, ⟨_, _, _⟩, hr80⟩ := bA hr80
  have j85d : j85 ≤ 63 := by omega
  have j85d : j85 ≤ 63 := by omega
  refine go ?_
  obtain ⟨_, ehy90, hr80⟩ := bN hr80 G121_eq
  obtain ⟨_, ehy91, hr80⟩ := bN hr80 G121_eq
  obtain ⟨_, ehy92, hr80⟩ := bN hr80 G121_eq
  refine go ?_
  exact bk hr80
 ·replace hr80 := ifN hr80
  refine go ?_
  obtain ⟨r93, q93, rfl⟩ := ms hr80
  refine go ?_
  rintro rfl
  refine go ?_
  unfold Lref03_Compress_k1 at q93
  refine go ?_
  exact fin q93
end Go.Proofs.YtconfbgcjkjnkaaDoor
