import Derived.Test.YtconfbgcjkjnkaaDoorLfK
import Derived.Test.YtconfbgcjkjnkaaDoorCode
namespace Go.Proofs.YtconfbgcjkjnkaaDoor
open Go.RowKit
open Go.Av
open Go.Lc
set_option maxRecDepth 100000
set_option linter.unusedSimpArgs false
set_option linter.unusedVariables false
set_option maxHeartbeats 4000000
theorem w20 : Walk tt G [(13, K13.G), (18, K18.G), (41, K41_31.G), (43, K43.G), (57, K57.G), (59, K59.G)] (fun _ => []) Tryd.f20 K20 := by
 refine .of [(8, ⟨[2, 3, 5, 12, 13, 29, 30, 31], [5, 42, 51], [(12, none, 42, 5), (13, none, 51, 5)]⟩), (1000013, ⟨[2, 3, 5, 12, 13, 29, 30, 31], [5, 42, 51], []⟩), (19, ⟨[2, 3, 5, 13, 17, 60, 61, 62], [5, 42, 51, 71], [(17, none, 71, 32)]⟩), (24, ⟨[3, 13, 17], [51, 71], []⟩)] false body20 Tryd.ntmps20 fun T hO hT ⟨a0, a1, a2, a3⟩ x hr => ⟨by simp, ?_⟩
 simp only [tabAll] at hT; simp only at hr ⊢; unfold c20
 unfold Lreplace_Insert at hr
 refine go ?_
 obtain ⟨y79, ehy79, hr⟩ := bN hr G57_eq
 refine go ?_
 by_cases c80 : y79 = true
 ·replace hr := ifN hr
  refine go ?_
  obtain ⟨_, ehy81, hr⟩ := bN hr G43_eq
  refine go ?_
  obtain ⟨y82, ehy82, hr⟩ := bN hr G41_31_eq
  refine go ?_
  by_cases c83 : y82 = true
  ·replace hr := ifP hr
   refine go ?_
   exact fin hr
  ·replace hr := ifN hr
   refine go ?_
   refine lp 8 (fun (⟨p19, p20, p21⟩ : Int × (List Tapi_Entry) × (List Tapi_Entry)) => ⟨(und 2 ++ ([.one (.v (.int .i64 a2)), .one (.v (.int .i64 a3))] ++ (und 1 ++ ([.ptr 5 0 0 0 4] ++ (und 6 ++ ([.one (.ms 42 0 0 (p20.length) 5), .one (.ms 51 0 0 (p21.length) 5)] ++ (und 15 ++ ([.one (.slice .no (List.map eapi_Entry a0)), .one (.v (.int .i64 (a0.length : Int))), .one (.v (.int .i64 p19))] ++ (und 75)))))))) : List PV), ([(5, ⟨0, 4, [[.v (.int .u32 a1.1), .slice .no (List.map eapi_Input a1.2.1), .slice .no (List.map eapi_Output a1.2.2.1), .v (.int .u32 a1.2.2.2)]], false, false⟩), (42, ⟨0, 5, List.map eapi_Entry p20, false, true⟩), (51, ⟨0, 5, List.map eapi_Entry p21, false, true⟩)] : Boxes)⟩) hr ?_
   rintro ⟨p19, p20, p21⟩ x98r hr98
   simp only [Lreplace_Insert_s1] at hr98
   unfold b20_1
   refine nst ?_
   refine go ?_
   by_cases c99 : p19 < (a0.length : Int)
   ·have c99N := nrm c99
    replace hr98 := ifP hr98
    refine go ?_
    obtain ⟨x100, ⟨_, _, _⟩, hr98⟩ := bI hr98
    refine go ?_
    obtain ⟨y101, ehy101, hr98⟩ := bN hr98 G13_eq
    refine go ?_
    refine ee_J hr98 (.normal) (fun (s : (List Tapi_Entry) × (List Tapi_Entry)) => match s with | (p74, p75) => (⟨(und 2 ++ ([.one (.v (.int .i64 a2)), .one (.v (.int .i64 a3))] ++ (und 1 ++ ([.ptr 5 0 0 0 4] ++ (und 6 ++ ([.one (.ms 42 0 0 (p74.length) 5), .one (.ms 51 0 0 (p75.length) 5)] ++ (und 15 ++ ([.one (.slice .no (List.map eapi_Entry a0)), .one (.v (.int .i64 (a0.length : Int))), .one (.v (.int .i64 p19))] ++ (und 75)))))))) : List PV), ([(5, ⟨0, 4, [[.v (.int .u32 a1.1), .slice .no (List.map eapi_Input a1.2.1), .slice .no (List.map eapi_Output a1.2.2.1), .v (.int .u32 a1.2.2.2)]], false, false⟩), (42, ⟨0, 5, List.map eapi_Entry p74, false, true⟩), (51, ⟨0, 5, List.map eapi_Entry p75, false, true⟩)] : Boxes)⟩ : ASt)) (fun (s : (List Tapi_Entry) × (List Tapi_Entry)) => match s with | (p74, p75) => Lreplace_Insert_k4 p19 p74 p75) ?_ ?_
    ·rintro ⟨p74, p75⟩ hk106
     change Lreplace_Insert_k4 p19 p74 p75 = _ at hk106
     refine go ?_
     refine nst ?_
     unfold Lreplace_Insert_k4 at hk106
     refine ee_regJ rfl (kq := ⟨[2, 3, 5, 12, 13, 29, 30, 31], [5, 42, 51], []⟩) rfl (by simp [joinSt, *]; rfl) (by simp [*] <;> rfl) ?_
     exact bk hk106
    ·intro J106
     simp only [pq, reduceCtorEq] at J106
     by_cases c107 : y101 = true
     ·replace hr98 := ifP hr98
      refine go ?_
      obtain ⟨_, hr98⟩ := bC hr98
      have n1_u108_0 : (p20.length + 1) * 72 ≤ 140737488355328 := by omega
      have n2_u108_0 : p20.length + 1 ≤ 9223372036854775807 := by omega
      refine go ?_
      exact jn 1000013 (J106 (p20 ++ [x100], p21) hr98)
     ·replace hr98 := ifN hr98
      refine go ?_
      obtain ⟨y109, ehy109, hr98⟩ := bN hr98 G59_eq
      obtain ⟨_, hr98⟩ := bC hr98
      have n1_u110_0 : (p21.length + 1) * 72 ≤ 140737488355328 := by omega
      have n2_u110_0 : p21.length + 1 ≤ 9223372036854775807 := by omega
      refine go ?_
      exact jn 1000013 (J106 (p20, p21 ++ [((y109.1, y109.2.1, y109.2.2.1, y109.2.2.2), x100.2)]) hr98)
   ·have c99N := nrm c99
    replace hr98 := ifN hr98
    refine go ?_
    obtain ⟨r111, q111, rfl⟩ := ms hr98
    refine go ?_
    rintro rfl
    refine go ?_
    unfold Lreplace_Insert_k1 at q111
    refine go ?_
    obtain ⟨y112, ehy112, q111⟩ := bN q111 G18_eq
    refine go ?_
    rcases eqT (y112 = 0) with c113 | c113
    ·replace q111 := ifN q111
     refine go ?_
     refine lp 19 (fun (⟨p39, p40⟩ : Int × (List (Arr 32))) => ⟨(und 2 ++ ([.one (.v (.int .i64 a2)), .one (.v (.int .i64 a3))] ++ (und 1 ++ ([.ptr 5 0 0 0 4] ++ (und 7 ++ ([.one (.ms 51 0 0 (p21.length) 5)] ++ (und 3 ++ ([.one (.ms 71 0 0 (p40.length) 32)] ++ (und 42 ++ ([.one (.ms 42 0 0 (p20.length) 5), .one (.v (.int .i64 (p20.length : Int))), .one (.v (.int .i64 p39))] ++ (und 44)))))))))) : List PV), ([(5, ⟨0, 4, [[.v (.int .u32 a1.1), .slice .no (List.map eapi_Input a1.2.1), .slice .no (List.map eapi_Output a1.2.2.1), .v (.int .u32 a1.2.2.2)]], false, false⟩), (42, ⟨0, 5, List.map eapi_Entry p20, false, true⟩), (51, ⟨0, 5, List.map eapi_Entry p21, false, true⟩), (71, ⟨0, 32, List.map (arC .u8) p40, false, true⟩)] : Boxes)⟩) q111 ?_
     rintro ⟨p39, p40⟩ x121r hr121
     simp only [Lreplace_Insert_s2] at hr121
     unfold b20_2
     refine nst ?_
     refine go ?_
     by_cases c122 : p39 < (p20.length : Int)
     ·have c122N := nrm c122
      replace hr121 := ifP hr121
      refine go ?_
      obtain ⟨_, ⟨_, _, _⟩, hr121⟩ := bA hr121
      obtain ⟨_, hx124, hr121⟩ := bs hr121
      have ghx124 := getE_of hx124
      refine go ?_
      obtain ⟨_, ehy125, hr121⟩ := bN hr121 G43_eq
      obtain ⟨_, hr121⟩ := bC hr121
      have n1_u126_0 : (p40.length + 1) * 32 ≤ 140737488355328 := by omega
      have n2_u126_0 : p40.length + 1 ≤ 9223372036854775807 := by omega
      refine go ?_
      exact bk hr121
     ·have c122N := nrm c122
      replace hr121 := ifN hr121
      refine go ?_
      obtain ⟨r127, q127, rfl⟩ := ms hr121
      refine go ?_
      rintro rfl
      refine go ?_
      unfold Lreplace_Insert_k2 at q127
      obtain ⟨y128, ehy128, q127⟩ := bN q127 G59_eq
      obtain ⟨_, q127⟩ := bC q127
      have n1_u129_0 : (p21.length + 1) * 72 ≤ 140737488355328 := by omega
      have n2_u129_0 : p21.length + 1 ≤ 9223372036854775807 := by omega
      refine go ?_
      refine lp 24 (fun (p56 : (List (Arr 32))) => ⟨(und 3 ++ ([.one (.v (.int .i64 a3))] ++ (und 9 ++ ([.one (.ms 51 0 0 (p21.length + 1) 5)] ++ (und 3 ++ ([.one (.ms 71 0 0 (p56.length) 32)] ++ (und 89)))))) : List PV), ([(51, ⟨0, 5, List.map eapi_Entry (p21 ++ [((y128.1, y128.2.1, y128.2.2.1, y128.2.2.2), a2)]), false, true⟩), (71, ⟨0, 32, List.map (arC .u8) p56, false, true⟩)] : Boxes)⟩) q127 ?_
      rintro p56 x134r hr134
      simp only [Lreplace_Insert_s3] at hr134
      unfold b20_3
      refine nst ?_
      refine go ?_
      by_cases c135 : 0 < (p21.length + 1 : Int)
      ·have c135N := nrm c135
       refine go ?_
       by_cases c136 : a3 < (p21.length + 1 : Int)
       ·have c136N := nrm c136
        replace hr134 := ifP hr134
        refine go ?_
        simp at hr134
       ·have c136N := nrm c136
        replace hr134 := ifN hr134
        refine go ?_
        obtain ⟨r137, q137, rfl⟩ := ms hr134
        refine go ?_
        rintro rfl
        refine go ?_
        unfold Lreplace_Insert_k3 at q137
        refine go ?_
        exact fin q137
      ·exact (c135 (by omega)).elim
    ·replace q111 := ifP q111
     refine go ?_
     exact fin q111
 ·replace hr := ifP hr
  refine go ?_
  exact fin hr
theorem w62 : Walk tt G [] (fun _ => []) Tryd.f62 K62 := by
 refine .of [] false body62 Tryd.ntmps62 fun T hO hT ⟨a0, a1⟩ x hr => ⟨by simp, ?_⟩
 simp only [tabAll] at hT; simp only at hr ⊢; unfold c62
 unfold Lref01_Same at hr
 refine go ?_
 exact fin hr
theorem w30 : Walk tt G [(62, K62.G)] (fun _ => []) Tryd.f30 K30 := by
 refine .of [] false body30 Tryd.ntmps30 fun T hO hT ⟨a0, a1⟩ x hr => ⟨by simp, ?_⟩
 simp only [tabAll] at hT; simp only at hr ⊢; unfold c30
 unfold Lref09_SameOut at hr
 refine go ?_
 rcases eqT (a0.1 = a1.1) with c3 | c3
 ·replace hr := ifPb hr
  obtain ⟨_, hz4, hr⟩ := bs hr
  obtain ⟨_, ehy5, hz4⟩ := bN hz4 G62_eq
  obtain rfl := Option.some.inj hz4
  refine go ?_
  exact fin hr
 ·replace hr := ifNb hr
  obtain ⟨_, hz6, hr⟩ := bs hr
  obtain rfl := Option.some.inj hz6
  refine go ?_
  exact fin hr
end Go.Proofs.YtconfbgcjkjnkaaDoor
