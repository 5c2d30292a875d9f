import Derived.Test.YtconfbgcjkjnkaaDoorLfK
import Derived.Test.YtconfbgcjkjnkaaDoorCode
namespace Go.Proofs.YtconfbgcjkjnkaaDoor
open Go.RowKit
open Go.Av
open Go.Lc
set_option maxRecDepth 100000
set_option linter.unusedSimpArgs false
set_option linter.unusedVariables false
set_option maxHeartbeats 4000000
theorem w21 : Walk tt G [(30, K30.G), (62, K62.G)] (fun _ => []) Tryd.f21 K21 := by
 refine .of [(4, ⟨[2, 3, 42, 43], [2, 3], []⟩), (10, ⟨[2, 3, 6, 7, 42, 43, 79, 80], [2, 3, 6, 7], []⟩), (17, ⟨[2, 3, 99, 100], [2, 3], []⟩)] false body21 Tryd.ntmps21 fun T hO hT ⟨a0, a1⟩ x hr => ⟨by simp, ?_⟩
 simp only [tabAll] at hT; simp only at hr ⊢; unfold c21
 unfold Lref09_SameTx at hr
 refine go ?_
 rcases eqT (a0.1 = a1.1) with c72 | c72
 ·rcases eqT (a0.2.2.2 = a1.2.2.2) with c73 | c73
  ·rcases eqT ((a0.2.1.length : Int) = (a1.2.1.length : Int)) with c74 | c74
   ·have c74N := nrm c74
    refine go ?_
    rcases eqT ((a0.2.2.1.length : Int) = (a1.2.2.1.length : Int)) with c75 | c75
    ·have c75N := nrm c75
     replace hr := ifN hr
     refine go ?_
     refine lp 4 (fun (p28 : Int) => ⟨(und 2 ++ ([.ptr 2 0 0 0 4, .ptr 3 0 0 0 4] ++ (und 38 ++ ([.one (.v (.int .i64 (a0.2.1.length : Int))), .one (.v (.int .i64 p28))] ++ (und 72)))) : List PV), ([(2, ⟨0, 4, [[.v (.int .u32 a0.1), .slice .no (List.map eapi_Input a0.2.1), .slice .no (List.map eapi_Output a0.2.2.1), .v (.int .u32 a0.2.2.2)]], false, false⟩), (3, ⟨0, 4, [[.v (.int .u32 a1.1), .slice .no (List.map eapi_Input a1.2.1), .slice .no (List.map eapi_Output a1.2.2.1), .v (.int .u32 a1.2.2.2)]], false, false⟩)] : Boxes)⟩) hr ?_
     rintro p28 x99r hr99
     simp only [Lref09_SameTx_s1] at hr99
     unfold b21_1
     refine nst ?_
     refine go ?_
     by_cases c100 : p28 < (a0.2.1.length : Int)
     ·have c100N := nrm c100
      replace hr99 := ifP hr99
      refine go ?_
      obtain ⟨x101, ⟨_, _, _⟩, hr99⟩ := bI hr99
      obtain ⟨x102, ⟨_, _, _⟩, hr99⟩ := bI hr99
      refine go ?_
      rcases eqT (x101.1.1 = x102.1.1) with c103 | c103
      ·rcases eqT (x101.1.2 = x102.1.2) with c104 | c104
       ·rcases eqT (x101.2.1 = x102.2.1) with c105 | c105
        ·refine go ?_
         rcases eqT ((x101.2.2.length : Int) = (x102.2.2.length : Int)) with c106 | c106
         ·have c106N := nrm c106
          replace hr99 := ifN hr99
          refine go ?_
          refine lp 10 (fun (p65 : Int) => ⟨(und 2 ++ ([.ptr 2 0 0 0 4, .ptr 3 0 0 0 4] ++ (und 2 ++ ([.ptr 6 0 0 0 35, .ptr 7 0 0 0 35] ++ (und 34 ++ ([.one (.v (.int .i64 (a0.2.1.length : Int))), .one (.v (.int .i64 p28))] ++ (und 35 ++ ([.one (.v (.int .i64 (x101.2.2.length : Int))), .one (.v (.int .i64 p65))] ++ (und 35)))))))) : List PV), ([(2, ⟨0, 4, [[.v (.int .u32 a0.1), .slice .no (List.map eapi_Input a0.2.1), .slice .no (List.map eapi_Output a0.2.2.1), .v (.int .u32 a0.2.2.2)]], false, false⟩), (3, ⟨0, 4, [[.v (.int .u32 a1.1), .slice .no (List.map eapi_Input a1.2.1), .slice .no (List.map eapi_Output a1.2.2.1), .v (.int .u32 a1.2.2.2)]], false, false⟩), (6, ⟨0, 35, [(arC .u8 x101.1.1) ++ ((.v (.int .u32 x101.1.2)) :: ((.v (.int .u32 x101.2.1)) :: ((.slice .no (List.map eS_I_u8 x101.2.2)) :: [])))], false, false⟩), (7, ⟨0, 35, [(arC .u8 x102.1.1) ++ ((.v (.int .u32 x102.1.2)) :: ((.v (.int .u32 x102.2.1)) :: ((.slice .no (List.map eS_I_u8 x102.2.2)) :: [])))], false, false⟩)] : Boxes)⟩) hr99 ?_
          rintro p65 x114r hr114
          simp only [Lref09_SameTx_s3] at hr114
          unfold b21_2
          refine nst ?_
          refine go ?_
          by_cases c115 : p65 < (x101.2.2.length : Int)
          ·have c115N := nrm c115
           replace hr114 := ifP hr114
           refine go ?_
           obtain ⟨_, ⟨_, _, _⟩, hr114⟩ := bI hr114
           obtain ⟨_, ⟨_, _, _⟩, hr114⟩ := bI hr114
           obtain ⟨y118, ehy118, hr114⟩ := bN hr114 G62_eq
           refine go ?_
           by_cases c119 : y118 = true
           ·replace hr114 := ifN hr114
            refine go ?_
            exact bk hr114
           ·replace hr114 := ifP hr114
            refine go ?_
            exact fin hr114
          ·have c115N := nrm c115
           replace hr114 := ifN hr114
           refine go ?_
           obtain ⟨r120, q120, rfl⟩ := ms hr114
           refine go ?_
           rintro rfl
           refine go ?_
           unfold Lref09_SameTx_k3 at q120
           refine go ?_
           exact bk q120
         ·have c106N := nrm c106
          replace hr99 := ifP hr99
          refine go ?_
          exact fin hr99
        ·refine go ?_
         replace hr99 := ifP hr99
         refine go ?_
         exact fin hr99
       ·refine go ?_
        replace hr99 := ifP hr99
        refine go ?_
        exact fin hr99
      ·refine go ?_
       replace hr99 := ifP hr99
       refine go ?_
       exact fin hr99
     ·have c100N := nrm c100
      replace hr99 := ifN hr99
      refine go ?_
      obtain ⟨r121, q121, rfl⟩ := ms hr99
      refine go ?_
      rintro rfl
      refine go ?_
      unfold Lref09_SameTx_k1 at q121
      refine go ?_
      refine lp 17 (fun (p49 : Int) => ⟨(und 2 ++ ([.ptr 2 0 0 0 4, .ptr 3 0 0 0 4] ++ (und 95 ++ ([.one (.v (.int .i64 (a0.2.2.1.length : Int))), .one (.v (.int .i64 p49))] ++ (und 15)))) : List PV), ([(2, ⟨0, 4, [[.v (.int .u32 a0.1), .slice .no (List.map eapi_Input a0.2.1), .slice .no (List.map eapi_Output a0.2.2.1), .v (.int .u32 a0.2.2.2)]], false, false⟩), (3, ⟨0, 4, [[.v (.int .u32 a1.1), .slice .no (List.map eapi_Input a1.2.1), .slice .no (List.map eapi_Output a1.2.2.1), .v (.int .u32 a1.2.2.2)]], false, false⟩)] : Boxes)⟩) q121 ?_
      rintro p49 x129r hr129
      simp only [Lref09_SameTx_s2] at hr129
      unfold b21_3
      refine nst ?_
      refine go ?_
      by_cases c130 : p49 < (a0.2.2.1.length : Int)
      ·have c130N := nrm c130
       replace hr129 := ifP hr129
       refine go ?_
       obtain ⟨_, ⟨_, _, _⟩, hr129⟩ := bI hr129
       obtain ⟨_, ⟨_, _, _⟩, hr129⟩ := bI hr129
       obtain ⟨y133, ehy133, hr129⟩ := bN hr129 G30_eq
       refine go ?_
       by_cases c134 : y133 = true
       ·replace hr129 := ifN hr129
        refine go ?_
        exact bk hr129
       ·replace hr129 := ifP hr129
        refine go ?_
        exact fin hr129
      ·have c130N := nrm c130
       replace hr129 := ifN hr129
       refine go ?_
       obtain ⟨r135, q135, rfl⟩ := ms hr129
       refine go ?_
       rintro rfl
       refine go ?_
       unfold Lref09_SameTx_k2 at q135
       refine go ?_
       exact fin q135
    ·have c75N := nrm c75
     replace hr := ifP hr
     refine go ?_
     exact fin hr
   ·have c74N := nrm c74
    refine go ?_
    replace hr := ifP hr
    refine go ?_
    exact fin hr
  ·refine go ?_
   replace hr := ifP hr
   refine go ?_
   exact fin hr
 ·refine go ?_
  replace hr := ifP hr
  refine go ?_
  exact fin hr
end Go.Proofs.YtconfbgcjkjnkaaDoor
