import Derived.Test.YtconfbgcjkjnkaaDoorLfK
import Derived.Test.YtconfbgcjkjnkaaDoorCode
namespace Go.Proofs.YtconfbgcjkjnkaaDoor
open Go.RowKit
open Go.Av
open Go.Lc
set_option maxRecDepth 100000
set_option linter.unusedSimpArgs false
set_option linter.unusedVariables false
set_option maxHeartbeats 4000000
def kp15 : Keep := fun i => if i = 3 then ⟨[0, 5, 6], [93, 1000000], [(5, none, 93, 5)]⟩ else if i = 8 then ⟨[0, 5, 6, 7, 8, 27, 28], [7, 24, 93, 100024, 1000000], []⟩ else if i = 11 then ⟨[0, 5, 6, 7, 8, 9, 27, 28, 35, 36], [7, 24, 93, 100024, 1000000], []⟩ else if i = 16 then ⟨[0, 5, 6, 7, 8, 9, 27, 28, 56, 57, 58], [7, 24, 93, 100024, 1000000], []⟩ else if i = 19 then ⟨[0, 5, 6, 7, 8, 9, 27, 28, 56, 57, 58, 64, 65, 66], [7, 24, 93, 100024, 1000000], []⟩ else ⟨[], [], []⟩
theorem w15 {T : Tab} (hT10 : T 10 = some G10) (hT17 : T 17 = some G17) (a0 : Tlightclientmill_Deck) (a1 : Int) (x : (List Tapi_Entry) × Tlightclientmill_Deck) (hr : Lmill_Pool a0 a1 = some x) : ∃ kp fl n, execFn tt T G kp fl n Tryd.f15 (E15 (a0, a1)) = some (R15 (a0, a1) x) := by
 simp only [E15, R15]
 refine fnE (kp := kp15) (w := true) body15 ?_
 unfold c15
 rw [Tryd.ntmps15]
 unfold Lmill_Pool at hr
 refine ee_seq_reg rfl (by simp []; rfl) ?_
 refine ee_seq_reg rfl (by simp []; rfl) ?_
 refine ee_assoc ?_
 obtain ⟨y1069, hy1069, hr⟩ := bs hr
 have ehy1069 := G17_eq hy1069
 simp only [E17, R17, nf, nfs] at ehy1069
 refine ee_seq_reg rfl (by simp [hT17, ehy1069]; rfl) ?_
 refine ee_seq_block ?_
 refine ee_loop (kq := ⟨[0, 5, 6], [93, 1000000], [(5, none, 93, 5)]⟩) (H := fun (s : Int × Tlightclientmill_Deck × (List Tapi_Entry)) => match s with | (p477, p478, p479) => (⟨([.ptr 1000000 0 0 0 2] ++ (und 4 ++ ([.one (.ms 93 0 0 (p479.length) 5), .one (.v (.int .i64 p477))] ++ (und 88))) : List PV), ([(93, ⟨0, 5, List.map eapi_Entry p479, false, true⟩), (1000000, ⟨0, 2, [[.slice .no (intsR .i64 p478.1), .v (.int .i64 p478.2)]], false, false⟩)] : Boxes)⟩ : ASt)) (by kernel_rfl) hr (by simp [und, List.replicate, ]) ?_
 rintro ⟨p477, p478, p479⟩ x1070r hr1070
 simp only [Lmill_Pool_s1] at hr1070
 unfold b15_1
 simp only [und, List.replicate, List.cons_append, List.nil_append]
 refine ee_assoc ?_
 refine ee_seq_reg rfl (by simp []; rfl) ?_
 by_cases c1071 : 0 < p477
 ·skip
  rw [if_pos] at hr1070
  rotate_left
  ·simp [c1071]
  refine ee_seq_condT (by simp [bV, c1071]) ?_
  refine ee_seq_skip ?_
  refine ee_seq_block ?_
  obtain ⟨y1072, hy1072, hr1070⟩ := bs hr1070
  have ehy1072 := G10_eq hy1072
  simp only [E10, R10, nf, nfs] at ehy1072
  refine ee_seq_reg rfl (by simp [hT10, ehy1072, c1071]; rfl) ?_
  refine ee_seq_reg rfl (by simp [c1071]; rfl) ?_
  refine ee_assoc ?_
  refine ee_seq_reg rfl (by simp [c1071]; rfl) ?_
  refine ee_seq_block ?_
  refine ee_loop (kq := ⟨[0, 5, 6, 7, 8, 27, 28], [7, 24, 93, 100024, 1000000], []⟩) (H := fun (s : Bool × Int) => match s with | (p878, p879) => (⟨([.ptr 1000000 0 0 0 2] ++ (und 4 ++ ([.one (.ms 93 0 0 (p479.length) 5), .one (.v (.int .i64 p477)), .ptr 7 0 0 0 4, .one (.v (.bool p878))] ++ (und 18 ++ ([.one (.v (.int .i64 (y1072.1.2.1.length : Int))), .one (.v (.int .i64 p879))] ++ (und 66))))) : List PV), ([(7, ⟨0, 4, [[.v (.int .u32 y1072.1.1), .ms 24 0 0 (y1072.1.2.1.length) 35, .ms 100024 0 0 (y1072.1.2.2.1.length) 2, .v (.int .u32 y1072.1.2.2.2)]], false, false⟩), (24, ⟨0, 35, List.map eapi_Input y1072.1.2.1, false, true⟩), (93, ⟨0, 5, List.map eapi_Entry p479, false, true⟩), (100024, ⟨0, 2, List.map eapi_Output y1072.1.2.2.1, false, true⟩), (1000000, ⟨0, 2, [[.slice .no (intsR .i64 y1072.2.1), .v (.int .i64 y1072.2.2)]], false, false⟩)] : Boxes)⟩ : ASt)) (by kernel_rfl) hr1070 (by simp [und, List.replicate, c1071]) ?_
  rintro ⟨p878, p879⟩ x1073r hr1073
  simp only [Lmill_Pool_s2] at hr1073
  unfold b15_2
  simp only [und, List.replicate, List.cons_append, List.nil_append]
  refine ee_seq_reg rfl (by simp [c1071]; rfl) ?_
  by_cases c1074 : p879 < (y1072.1.2.1.length : Int)
  ·skip
   have c1074N := c1074
   try simp at c1074N
   first | have c1074M : (_ = _) = True := eq_true c1074N | have c1074M := c1074N
   rw [if_pos] at hr1073
   rotate_left
   ·simp [c1071, c1074, c1074M]
   refine ee_seq_condT (by simp [bV, c1071, c1074, c1074M]) ?_
   refine ee_seq_skip ?_
   refine ee_seq_block ?_
   refine ee_seq_reg rfl (by simp [c1071, c1074, c1074M]; rfl) ?_
   refine ee_assoc ?_
   obtain ⟨_, u1075, hr1073⟩ := bs hr1073
   obtain ⟨u1075_0, u1075_1⟩ := chk_some u1075
   have sf1076 : (p879).toNat ≤ y1072.1.2.1.length := by omega
   have sf1077 : 0 ≤ p879 := by omega
   refine ee_seq_reg rfl (by simp [u1075_0, u1075_1, sf1076, sf1077, c1071, c1074, c1074M]; rfl) ?_
   refine ee_seq_block ?_
   refine ee_loop (kq := ⟨[0, 5, 6, 7, 8, 9, 27, 28, 35, 36], [7, 24, 93, 100024, 1000000], []⟩) (H := fun (s : Bool × Int) => match s with | (p977, p978) => (⟨([.ptr 1000000 0 0 0 2] ++ (und 4 ++ ([.one (.ms 93 0 0 (p479.length) 5), .one (.v (.int .i64 p477)), .ptr 7 0 0 0 4, .one (.v (.bool p977)), .one (.v (.int .i64 p879))] ++ (und 17 ++ ([.one (.v (.int .i64 (y1072.1.2.1.length : Int))), .one (.v (.int .i64 p879))] ++ (und 6 ++ ([.one (.v (.int .i64 ((p879).toNat : Int))), .one (.v (.int .i64 p978))] ++ (und 58))))))) : List PV), ([(7, ⟨0, 4, [[.v (.int .u32 y1072.1.1), .ms 24 0 0 (y1072.1.2.1.length) 35, .ms 100024 0 0 (y1072.1.2.2.1.length) 2, .v (.int .u32 y1072.1.2.2.2)]], false, false⟩), (24, ⟨0, 35, List.map eapi_Input y1072.1.2.1, false, true⟩), (93, ⟨0, 5, List.map eapi_Entry p479, false, true⟩), (100024, ⟨0, 2, List.map eapi_Output y1072.1.2.2.1, false, true⟩), (1000000, ⟨0, 2, [[.slice .no (intsR .i64 y1072.2.1), .v (.int .i64 y1072.2.2)]], false, false⟩)] : Boxes)⟩ : ASt)) (by kernel_rfl) hr1073 (by simp [und, List.replicate, c1071, c1074, c1074M]) ?_
   rintro ⟨p977, p978⟩ x1078r hr1078
   simp only [Lmill_Pool_s3] at hr1078
   unfold b15_3
   simp only [und, List.replicate, List.cons_append, List.nil_append]
   refine ee_seq_reg rfl (by simp [c1071, c1074, c1074M]; rfl) ?_
   by_cases c1079 : p978 < ((p879).toNat : Int)
   ·skip
    have c1079N := c1079
    try simp at c1079N
    first | have c1079M : (_ = _) = True := eq_true c1079N | have c1079M := c1079N
    rw [if_pos] at hr1078
    rotate_left
    ·simp [c1071, c1074, c1074M, c1079, c1079M]
    refine ee_seq_condT (by simp [bV, c1071, c1074, c1074M, c1079, c1079M]) ?_
    refine ee_seq_skip ?_
    refine ee_seq_block ?_
    refine ee_seq_reg rfl (by simp [c1071, c1074, c1074M, c1079, c1079M]; rfl) ?_
    by_cases c1080 : p977 = true
    ·skip
     rw [if_pos] at hr1078
     rotate_left
     ·simp [c1071, c1074, c1074M, c1079, c1079M, c1080]
     obtain ⟨z1081, hz1081, hr1078⟩ := bs hr1078
     obtain rfl := Option.some.inj hz1081
     refine ee_draw rfl (by simp [c1071, c1074, c1074M, c1079, c1079M, c1080]; first | exact ⟨rfl, rfl⟩ | rfl) (by kernel_rfl) ?_
     simp only [pq, reduceCtorEq]
     refine ee_reg rfl (by simp [c1071, c1074, c1074M, c1079, c1079M, c1080]; rfl) ?_
     obtain rfl := Option.some.inj hr1078
     simp only [pq, reduceCtorEq]
     simp [und, List.replicate, Nat.add_assoc, c1071, c1074, c1074M, c1079, c1079M, c1080]
    ·skip
     rw [if_neg] at hr1078
     rotate_left
     ·simp [c1071, c1074, c1074M, c1079, c1079M, c1080]
     obtain ⟨z1082, hz1082, hr1078⟩ := bs hr1078
     obtain ⟨j1083, hj1083, hz1082⟩ := bs hz1082
     obtain ⟨j1083a, j1083b, j1083c⟩ := inA_some hj1083
     obtain ⟨x1084, hx1084, hz1082⟩ := bs hz1082
     have ghx1084 := getE_of hx1084
     obtain ⟨j1085, hj1085, hz1082⟩ := bs hz1082
     obtain ⟨j1085a, j1085b, j1085c⟩ := inA_some hj1085
     obtain ⟨x1086, hx1086, hz1082⟩ := bs hz1082
     have ghx1086 := getE_of hx1086
     obtain rfl := Option.some.inj hz1082
     refine ee_draw rfl (by simp [j1083a, j1083b, j1083c, hx1084, ghx1084, j1085a, j1085b, j1085c, hx1086, ghx1086, c1071, c1074, c1074M, c1079, c1079M, c1080]; first | exact ⟨rfl, rfl⟩ | rfl) (by kernel_rfl) ?_
     simp only [pq, reduceCtorEq]
     refine ee_reg rfl (by simp [c1071, c1074, c1074M, c1079, c1079M, c1080]; rfl) ?_
     obtain rfl := Option.some.inj hr1078
     simp only [pq, reduceCtorEq]
     simp [und, List.replicate, Nat.add_assoc, c1071, c1074, c1074M, c1079, c1079M, c1080]
   ·skip
    have c1079N := c1079
    try simp at c1079N
    first | have c1079M : (_ = _) = True := eq_true c1079N | have c1079M := c1079N
    rw [if_neg] at hr1078
    rotate_left
    ·simp [c1071, c1074, c1074M, c1079, c1079M]
    refine ee_seq_condF (by simp [bV, c1071, c1074, c1074M, c1079, c1079M]) ?_
    refine ee_seq_exit ?_
    obtain ⟨r1087, q1087, rfl⟩ := ms hr1078
    simp only [pq, reduceCtorEq]
    rintro rfl
    try simp only [pq, reduceCtorEq]
    unfold Lmill_Pool_k4 at q1087
    refine ee_seq_reg rfl (by simp [c1071, c1074, c1074M, c1079, c1079M]; rfl) ?_
    refine ee_block ?_
    refine ee_loop (kq := ⟨[0, 5, 6, 7, 8, 9, 27, 28, 56, 57, 58], [7, 24, 93, 100024, 1000000], []⟩) (H := fun (s : Bool × Int) => match s with | (p1022, p1023) => (⟨([.ptr 1000000 0 0 0 2] ++ (und 4 ++ ([.one (.ms 93 0 0 (p479.length) 5), .one (.v (.int .i64 p477)), .ptr 7 0 0 0 4, .one (.v (.bool p1022)), .one (.v (.int .i64 p879))] ++ (und 17 ++ ([.one (.v (.int .i64 (y1072.1.2.1.length : Int))), .one (.v (.int .i64 p879))] ++ (und 27 ++ ([.one (.ms 93 0 0 (p479.length) 5), .one (.v (.int .i64 (p479.length : Int))), .one (.v (.int .i64 p1023))] ++ (und 36))))))) : List PV), ([(7, ⟨0, 4, [[.v (.int .u32 y1072.1.1), .ms 24 0 0 (y1072.1.2.1.length) 35, .ms 100024 0 0 (y1072.1.2.2.1.length) 2, .v (.int .u32 y1072.1.2.2.2)]], false, false⟩), (24, ⟨0, 35, List.map eapi_Input y1072.1.2.1, false, true⟩), (93, ⟨0, 5, List.map eapi_Entry p479, false, true⟩), (100024, ⟨0, 2, List.map eapi_Output y1072.1.2.2.1, false, true⟩), (1000000, ⟨0, 2, [[.slice .no (intsR .i64 y1072.2.1), .v (.int .i64 y1072.2.2)]], false, false⟩)] : Boxes)⟩ : ASt)) (by kernel_rfl) q1087 (by simp [und, List.replicate, c1071, c1074, c1074M, c1079, c1079M]) ?_
    rintro ⟨p1022, p1023⟩ x1088r hr1088
    simp only [Lmill_Pool_s4] at hr1088
    unfold b15_4
    simp only [und, List.replicate, List.cons_append, List.nil_append]
    refine ee_seq_reg rfl (by simp [c1071, c1074, c1074M, c1079, c1079M]; rfl) ?_
    by_cases c1089 : p1023 < (p479.length : Int)
    ·skip
     have c1089N := c1089
     try simp at c1089N
     first | have c1089M : (_ = _) = True := eq_true c1089N | have c1089M := c1089N
     rw [if_pos] at hr1088
     rotate_left
     ·simp [c1071, c1074, c1074M, c1079, c1079M, c1089, c1089M]
     refine ee_seq_condT (by simp [bV, c1071, c1074, c1074M, c1079, c1079M, c1089, c1089M]) ?_
     refine ee_seq_skip ?_
     refine ee_seq_block ?_
     obtain ⟨j1090, hj1090, hr1088⟩ := bs hr1088
     obtain ⟨j1090a, j1090b, j1090c⟩ := inA_some hj1090
     obtain ⟨x1091, hx1091, hr1088⟩ := bs hr1088
     have ghx1091 := getE_of hx1091
     refine ee_seq_reg rfl (by simp [j1090a, j1090b, j1090c, hx1091, ghx1091, c1071, c1074, c1074M, c1079, c1079M, c1089, c1089M]; rfl) ?_
     refine ee_seq_reg rfl (by simp [c1071, c1074, c1074M, c1079, c1079M, c1089, c1089M]; rfl) ?_
     refine ee_block ?_
     refine ee_loop (kq := ⟨[0, 5, 6, 7, 8, 9, 27, 28, 56, 57, 58, 64, 65, 66], [7, 24, 93, 100024, 1000000], []⟩) (H := fun (s : Bool × Int) => match s with | (p1054, p1055) => (⟨([.ptr 1000000 0 0 0 2] ++ (und 4 ++ ([.one (.ms 93 0 0 (p479.length) 5), .one (.v (.int .i64 p477)), .ptr 7 0 0 0 4, .one (.v (.bool p1054)), .one (.v (.int .i64 p879))] ++ (und 17 ++ ([.one (.v (.int .i64 (y1072.1.2.1.length : Int))), .one (.v (.int .i64 p879))] ++ (und 27 ++ ([.one (.ms 93 0 0 (p479.length) 5), .one (.v (.int .i64 (p479.length : Int))), .one (.v (.int .i64 p1023))] ++ (und 5 ++ ([.one (.slice .no (List.map eapi_Input x1091.1.2.1)), .one (.v (.int .i64 (x1091.1.2.1.length : Int))), .one (.v (.int .i64 p1055))] ++ (und 28))))))))) : List PV), ([(7, ⟨0, 4, [[.v (.int .u32 y1072.1.1), .ms 24 0 0 (y1072.1.2.1.length) 35, .ms 100024 0 0 (y1072.1.2.2.1.length) 2, .v (.int .u32 y1072.1.2.2.2)]], false, false⟩), (24, ⟨0, 35, List.map eapi_Input y1072.1.2.1, false, true⟩), (93, ⟨0, 5, List.map eapi_Entry p479, false, true⟩), (100024, ⟨0, 2, List.map eapi_Output y1072.1.2.2.1, false, true⟩), (1000000, ⟨0, 2, [[.slice .no (intsR .i64 y1072.2.1), .v (.int .i64 y1072.2.2)]], false, false⟩)] : Boxes)⟩ : ASt)) (by kernel_rfl) hr1088 (by simp [und, List.replicate, c1071, c1074, c1074M, c1079, c1079M, c1089, c1089M]) ?_
     rintro ⟨p1054, p1055⟩ x1092r hr1092
     simp only [Lmill_Pool_s5] at hr1092
     unfold b15_5
     simp only [und, List.replicate, List.cons_append, List.nil_append]
     refine ee_seq_reg rfl (by simp [c1071, c1074, c1074M, c1079, c1079M, c1089, c1089M]; rfl) ?_
     by_cases c1093 : p1055 < (x1091.1.2.1.length : Int)
     ·skip
      have c1093N := c1093
      try simp at c1093N
      first | have c1093M : (_ = _) = True := eq_true c1093N | have c1093M := c1093N
      rw [if_pos] at hr1092
      rotate_left
      ·simp [c1071, c1074, c1074M, c1079, c1079M, c1089, c1089M, c1093, c1093M]
      refine ee_seq_condT (by simp [bV, c1071, c1074, c1074M, c1079, c1079M, c1089, c1089M, c1093, c1093M]) ?_
      refine ee_seq_skip ?_
      refine ee_seq_block ?_
      obtain ⟨x1094, hx1094, hr1092⟩ := bs hr1092
      obtain ⟨hx1094a, hx1094b⟩ := idx_some hx1094
      have hx1094c := getE_of hx1094b
      refine ee_seq_reg rfl (by simp [hx1094a, hx1094b, hx1094c, c1071, c1074, c1074M, c1079, c1079M, c1089, c1089M, c1093, c1093M]; rfl) ?_
      by_cases c1095 : p1054 = true
      ·skip
       rw [if_pos] at hr1092
       rotate_left
       ·simp [c1071, c1074, c1074M, c1079, c1079M, c1089, c1089M, c1093, c1093M, c1095]
       obtain ⟨z1096, hz1096, hr1092⟩ := bs hr1092
       obtain rfl := Option.some.inj hz1096
       refine ee_draw rfl (by simp [c1071, c1074, c1074M, c1079, c1079M, c1089, c1089M, c1093, c1093M, c1095]; first | exact ⟨rfl, rfl⟩ | rfl) (by kernel_rfl) ?_
       simp only [pq, reduceCtorEq]
       refine ee_reg rfl (by simp [c1071, c1074, c1074M, c1079, c1079M, c1089, c1089M, c1093, c1093M, c1095]; rfl) ?_
       obtain rfl := Option.some.inj hr1092
       simp only [pq, reduceCtorEq]
       simp [und, List.replicate, Nat.add_assoc, c1071, c1074, c1074M, c1079, c1079M, c1089, c1089M, c1093, c1093M, c1095]
      ·skip
       rw [if_neg] at hr1092
       rotate_left
       ·simp [c1071, c1074, c1074M, c1079, c1079M, c1089, c1089M, c1093, c1093M, c1095]
       obtain ⟨z1097, hz1097, hr1092⟩ := bs hr1092
       obtain ⟨j1098, hj1098, hz1097⟩ := bs hz1097
       obtain ⟨j1098a, j1098b, j1098c⟩ := inA_some hj1098
       obtain ⟨x1099, hx1099, hz1097⟩ := bs hz1097
       have ghx1099 := getE_of hx1099
       obtain rfl := Option.some.inj hz1097
       refine ee_draw rfl (by simp [j1098a, j1098b, j1098c, hx1099, ghx1099, c1071, c1074, c1074M, c1079, c1079M, c1089, c1089M, c1093, c1093M, c1095]; first | exact ⟨rfl, rfl⟩ | rfl) (by kernel_rfl) ?_
       simp only [pq, reduceCtorEq]
       refine ee_reg rfl (by simp [c1071, c1074, c1074M, c1079, c1079M, c1089, c1089M, c1093, c1093M, c1095]; rfl) ?_
       obtain rfl := Option.some.inj hr1092
       simp only [pq, reduceCtorEq]
       simp [und, List.replicate, Nat.add_assoc, c1071, c1074, c1074M, c1079, c1079M, c1089, c1089M, c1093, c1093M, c1095]
     ·skip
      have c1093N := c1093
      try simp at c1093N
      first | have c1093M : (_ = _) = True := eq_true c1093N | have c1093M := c1093N
      rw [if_neg] at hr1092
      rotate_left
      ·simp [c1071, c1074, c1074M, c1079, c1079M, c1089, c1089M, c1093, c1093M]
      refine ee_seq_condF (by simp [bV, c1071, c1074, c1074M, c1079, c1079M, c1089, c1089M, c1093, c1093M]) ?_
      refine ee_seq_exit ?_
      obtain ⟨r1100, q1100, rfl⟩ := ms hr1092
      simp only [pq, reduceCtorEq]
      rintro rfl
      try simp only [pq, reduceCtorEq]
      unfold Lmill_Pool_k6 at q1100
      refine ee_reg rfl (by simp [c1071, c1074, c1074M, c1079, c1079M, c1089, c1089M, c1093, c1093M]; rfl) ?_
      obtain rfl := Option.some.inj q1100
      simp only [pq, reduceCtorEq]
      simp [und, List.replicate, Nat.add_assoc, c1071, c1074, c1074M, c1079, c1079M, c1089, c1089M, c1093, c1093M]
    ·skip
     have c1089N := c1089
     try simp at c1089N
     first | have c1089M : (_ = _) = True := eq_true c1089N | have c1089M := c1089N
     rw [if_neg] at hr1088
     rotate_left
     ·simp [c1071, c1074, c1074M, c1079, c1079M, c1089, c1089M]
     refine ee_seq_condF (by simp [bV, c1071, c1074, c1074M, c1079, c1079M, c1089, c1089M]) ?_
     refine ee_seq_exit ?_
     obtain ⟨r1101, q1101, rfl⟩ := ms hr1088
     simp only [pq, reduceCtorEq]
     rintro rfl
     try simp only [pq, reduceCtorEq]
     unfold Lmill_Pool_k5 at q1101
     refine ee_reg rfl (by simp [c1071, c1074, c1074M, c1079, c1079M, c1089, c1089M]; rfl) ?_
     obtain rfl := Option.some.inj q1101
     simp only [pq, reduceCtorEq]
     simp [und, List.replicate, Nat.add_assoc, c1071, c1074, c1074M, c1079, c1079M, c1089, c1089M]
  ·skip
   have c1074N := c1074
   try simp at c1074N
   first | have c1074M : (_ = _) = True := eq_true c1074N | have c1074M := c1074N
   rw [if_neg] at hr1073
   rotate_left
   ·simp [c1071, c1074, c1074M]
   refine ee_seq_condF (by simp [bV, c1071, c1074, c1074M]) ?_
   refine ee_seq_exit ?_
   obtain ⟨r1102, q1102, rfl⟩ := ms hr1073
   simp only [pq, reduceCtorEq]
   rintro rfl
   try simp only [pq, reduceCtorEq]
   unfold Lmill_Pool_k2 at q1102
   refine ee_seq_reg rfl (by simp [c1071, c1074, c1074M]; rfl) ?_
   by_cases c1103 : p878 = true
   ·skip
    rw [if_neg (not_not_intro c1103)] at q1102
    refine ee_condF (by simp [bV, c1071, c1074, c1074M, c1103]) ?_
    refine ee_skip ?_
    simp only [pq, reduceCtorEq]
    unfold Lmill_Pool_k3 at q1102
    refine ee_reg rfl (by simp [c1071, c1074, c1074M, c1103]; rfl) ?_
    obtain rfl := Option.some.inj q1102
    simp only [pq, reduceCtorEq]
    simp [und, List.replicate, Nat.add_assoc, c1071, c1074, c1074M, c1103]
   ·skip
    rw [if_pos c1103] at q1102
    refine ee_condT (by simp [bV, c1071, c1074, c1074M, c1103]) ?_
    obtain ⟨y1104, hy1104, q1102⟩ := bs q1102
    have ehy1104 := G17_eq hy1104
    simp only [E17, R17, nf, nfs] at ehy1104
    obtain ⟨_, u1105, q1102⟩ := bs q1102
    have u1105_0 := chk_some u1105
    have n1_u1105_0 : (p479.length + 1) * 72 ≤ 140737488355328 := by omega
    have n2_u1105_0 : p479.length + 1 ≤ 9223372036854775807 := by omega
    refine ee_draw rfl (by simp [hT17, ehy1104, n1_u1105_0, n2_u1105_0, c1071, c1074, c1074M, c1103]; first | exact ⟨rfl, rfl⟩ | rfl) (by kernel_rfl) ?_
    simp only [pq, reduceCtorEq]
    unfold Lmill_Pool_k3 at q1102
    refine ee_reg rfl (by simp [c1071, c1074, c1074M, c1103]; rfl) ?_
    obtain rfl := Option.some.inj q1102
    simp only [pq, reduceCtorEq]
    simp [und, List.replicate, Nat.add_assoc, c1071, c1074, c1074M, c1103]
 ·skip
  rw [if_neg] at hr1070
  rotate_left
  ·simp [c1071]
  refine ee_seq_condF (by simp [bV, c1071]) ?_
  refine ee_seq_exit ?_
  obtain ⟨r1106, q1106, rfl⟩ := ms hr1070
  simp only [pq, reduceCtorEq]
  rintro rfl
  try simp only [pq, reduceCtorEq]
  unfold Lmill_Pool_k1 at q1106
  refine ee_seq_reg rfl (by simp [c1071]; rfl) ?_
  refine ee_ret ?_
  obtain rfl := Option.some.inj q1106
  simp [FinQ, c1071]
def kp101 : Keep := fun i => ⟨[], [], []⟩
theorem w101 {T : Tab} (a0 : (List Int)) (a1 : (List Int)) (x : (List Int)) (hr : Lref01_joined a0 a1 = some x) : ∃ kp fl n, execFn tt T G kp fl n Tryd.f101 (E101 (a0, a1)) = some (R101 (a0, a1) x) := by
 simp only [E101, R101]
 refine fnE (kp := kp101) (w := true) body101 ?_
 unfold c101
 rw [Tryd.ntmps101]
 unfold Lref01_joined at hr
 refine ee_seq_reg rfl (by simp []; rfl) ?_
 obtain ⟨_, u4, hr⟩ := bs hr
 obtain ⟨u4_0, u4_1⟩ := chk_some u4
 have mf5 : 0 ≤ (IntKind.i64.wrap ((a0.length : Int) + (a1.length : Int))).toNat := by omega
 have mf6 : (IntKind.i64.wrap ((a0.length : Int) + (a1.length : Int))).toNat ≤ 140737488355328 := by omega
 have mf7 : (IntKind.i64.wrap ((a0.length : Int) + (a1.length : Int))).toNat ≤ 9223372036854775807 := by omega
 have mf8 : 0 ≤ IntKind.i64.wrap ((a0.length : Int) + (a1.length : Int)) := by omega
 refine ee_seq_reg rfl (by simp [u4_0, u4_1, mf5, mf6, mf7, mf8]; rfl) ?_
 obtain ⟨_, u9, hr⟩ := bs hr
 have u9_0 := chk_some u9
 have n1_u9_0 : a0.length ≤ 140737488355328 := by omega
 have n2_u9_0 : a0.length ≤ 9223372036854775807 := by omega
 obtain ⟨_, u10, hr⟩ := bs hr
 have u10_0 := chk_some u10
 have n1_u10_0 : a0.length + a1.length ≤ 140737488355328 := by omega
 have n2_u10_0 : a0.length + a1.length ≤ 9223372036854775807 := by omega
 refine ee_seq_reg rfl (by simp [n1_u9_0, n2_u9_0, n1_u10_0, n2_u10_0]; rfl) ?_
 refine ee_ret ?_
 obtain rfl := Option.some.inj hr
 simp [FinQ, n1_u9_0, n2_u9_0, n1_u10_0, n2_u10_0]
def kp102 : Keep := fun i => if i = 3 then ⟨[0, 5, 10, 11], [8], []⟩ else ⟨[], [], []⟩
theorem w102 {T : Tab} (a0 : Int) (a1 : Int) (x : (List Int)) (hr : Lref01_little a0 a1 = some x) : ∃ kp fl n, execFn tt T G kp fl n Tryd.f102 (E102 (a0, a1)) = some (R102 (a0, a1) x) := by
 simp only [E102, R102]
 refine fnE (kp := kp102) (w := true) body102 ?_
 unfold c102
 rw [Tryd.ntmps102]
 unfold Lref01_little at hr
 refine ee_seq_reg rfl (by simp []; rfl) ?_
 obtain ⟨_, u14, hr⟩ := bs hr
 obtain ⟨u14_0, u14_1⟩ := chk_some u14
 have mf15 : (a1).toNat ≤ 140737488355328 := by omega
 have mf16 : (a1).toNat ≤ 9223372036854775807 := by omega
 have mf17 : 0 ≤ a1 := by omega
 refine ee_seq_reg rfl (by simp [u14_0, u14_1, mf15, mf16, mf17]; rfl) ?_
 refine ee_assoc ?_
 refine ee_seq_reg rfl (by simp []; rfl) ?_
 refine ee_seq_block ?_
 refine ee_loop (kq := ⟨[0, 5, 10, 11], [8], []⟩) (H := fun (s : Int × (List Int)) => match s with | (p8, p9) => (⟨([.one (.v (.int .u64 a0))] ++ (und 4 ++ ([.one (.ms 8 0 0 (p9.length) 1)] ++ (und 4 ++ ([.one (.v (.int .i64 ((List.replicate ((a1).toNat) 0).length : Int))), .one (.v (.int .i64 p8))] ++ (und 12))))) : List PV), ([(8, ⟨0, 1, intsR .u8 p9, false, true⟩)] : Boxes)⟩ : ASt)) (by kernel_rfl) hr (by simp [und, List.replicate, ]) ?_
 rintro ⟨p8, p9⟩ x18r hr18
 simp only [Lref01_little_s1] at hr18
 unfold b102_1
 simp only [und, List.replicate, List.cons_append, List.nil_append]
 refine ee_seq_reg rfl (by simp []; rfl) ?_
 by_cases c19 : p8 < ((List.replicate ((a1).toNat) 0).length : Int)
 ·skip
  have c19N := c19
  try simp at c19N
  first | have c19M : (_ = _) = True := eq_true c19N | have c19M := c19N
  rw [if_pos] at hr18
  rotate_left
  ·simp [c19, c19M]
  refine ee_seq_condT (by simp [bV, c19, c19M]) ?_
  refine ee_seq_skip ?_
  refine ee_seq_block ?_
  refine ee_seq_reg rfl (by simp [c19, c19M]; rfl) ?_
  obtain ⟨_, u20, hr18⟩ := bs hr18
  have u20_0 := chk_some u20
  obtain ⟨j21, hj21, hr18⟩ := bs hr18
  obtain ⟨j21a, j21b, j21c⟩ := inA_some hj21
  refine ee_reg rfl (by simp [u20_0, j21a, j21b, j21c, c19, c19M]; rfl) ?_
  simp only [pq, reduceCtorEq]
  refine ee_reg rfl (by simp [c19, c19M]; rfl) ?_
  obtain rfl := Option.some.inj hr18
  simp only [pq, reduceCtorEq]
  simp [und, List.replicate, Nat.add_assoc, c19, c19M]
 ·skip
  have c19N := c19
  try simp at c19N
  first | have c19M : (_ = _) = True := eq_true c19N | have c19M := c19N
  rw [if_neg] at hr18
  rotate_left
  ·simp [c19, c19M]
  refine ee_seq_condF (by simp [bV, c19, c19M]) ?_
  refine ee_seq_exit ?_
  obtain ⟨r22, q22, rfl⟩ := ms hr18
  simp only [pq, reduceCtorEq]
  rintro rfl
  try simp only [pq, reduceCtorEq]
  unfold Lref01_little_k1 at q22
  refine ee_seq_reg rfl (by simp [c19, c19M]; rfl) ?_
  refine ee_ret ?_
  obtain rfl := Option.some.inj q22
  simp [FinQ, c19, c19M]
def kp89 : Keep := fun i => ⟨[], [], []⟩
theorem w89 {T : Tab} (hT101 : T 101 = some G101) (hT102 : T 102 = some G102) (a0 : (List Int)) (a1 : Int) (x : (List Int)) (hr : Lref01_AppendU32 a0 a1 = some x) : ∃ kp fl n, execFn tt T G kp fl n Tryd.f89 (E89 (a0, a1)) = some (R89 (a0, a1) x) := by
 simp only [E89, R89]
 refine fnE (kp := kp89) (w := true) body89 ?_
 unfold c89
 rw [Tryd.ntmps89]
 unfold Lref01_AppendU32 at hr
 refine ee_seq_reg rfl (by simp []; rfl) ?_
 obtain ⟨y3, hy3, hr⟩ := bs hr
 have ehy3 := G102_eq hy3
 simp only [E102, R102, nf, nfs] at ehy3
 obtain ⟨y4, hy4, hr⟩ := bs hr
 have ehy4 := G101_eq hy4
 simp only [E101, R101, nf, nfs] at ehy4
 refine ee_seq_reg rfl (by simp [hT102, ehy3, hT101, ehy4]; rfl) ?_
 refine ee_ret ?_
 obtain rfl := Option.some.inj hr
 simp [FinQ, hT102, ehy3, hT101, ehy4]
def kp90 : Keep := fun i => ⟨[], [], []⟩
theorem w90 {T : Tab} (hT101 : T 101 = some G101) (hT102 : T 102 = some G102) (a0 : (List Int)) (a1 : Int) (x : (List Int)) (hr : Lref01_AppendSize a0 a1 = some x) : ∃ kp fl n, execFn tt T G kp fl n Tryd.f90 (E90 (a0, a1)) = some (R90 (a0, a1) x) := by
 simp only [E90, R90]
 refine fnE (kp := kp90) (w := true) body90 ?_
 unfold c90
 rw [Tryd.ntmps90]
 unfold Lref01_AppendSize at hr
 refine ee_seq_reg rfl (by simp []; rfl) ?_
 refine ee_seq_block ?_
 refine ee_seq_reg rfl (by simp []; rfl) ?_
 by_cases c12 : a1 < 253
 ·skip
  rw [if_pos c12] at hr
  refine ee_condT (by simp [bV, c12]) ?_
  obtain ⟨y13, hy13, hr⟩ := bs hr
  have ehy13 := G102_eq hy13
  simp only [E102, R102, nf, nfs] at ehy13
  obtain ⟨y14, hy14, hr⟩ := bs hr
  have ehy14 := G101_eq hy14
  simp only [E101, R101, nf, nfs] at ehy14
  refine ee_seq_reg rfl (by simp [hT102, ehy13, hT101, ehy14, c12]; rfl) ?_
  refine ee_ret ?_
  obtain rfl := Option.some.inj hr
  simp [FinQ, hT102, ehy13, hT101, ehy14, c12]
 ·skip
  rw [if_neg c12] at hr
  refine ee_condF (by simp [bV, c12]) ?_
  refine ee_seq_reg rfl (by simp [c12]; rfl) ?_
  by_cases c15 : a1 < 65536
  ·skip
   rw [if_pos c15] at hr
   refine ee_condT (by simp [bV, c12, c15]) ?_
   obtain ⟨y16, hy16, hr⟩ := bs hr
   have ehy16 := G102_eq hy16
   simp only [E102, R102, nf, nfs] at ehy16
   obtain ⟨y17, hy17, hr⟩ := bs hr
   have ehy17 := G101_eq hy17
   simp only [E101, R101, nf, nfs] at ehy17
   obtain ⟨y18, hy18, hr⟩ := bs hr
   have ehy18 := G101_eq hy18
   simp only [E101, R101, nf, nfs] at ehy18
   refine ee_seq_reg rfl (by simp [hT102, ehy16, hT101, ehy17, ehy18, c12, c15]; rfl) ?_
   refine ee_ret ?_
   obtain rfl := Option.some.inj hr
   simp [FinQ, hT102, ehy16, hT101, ehy17, ehy18, c12, c15]
  ·skip
   rw [if_neg c15] at hr
   refine ee_condF (by simp [bV, c12, c15]) ?_
   refine ee_seq_reg rfl (by simp [c12, c15]; rfl) ?_
   by_cases c19 : a1 < 4294967296
   ·skip
    rw [if_pos c19] at hr
    refine ee_condT (by simp [bV, c12, c15, c19]) ?_
    obtain ⟨y20, hy20, hr⟩ := bs hr
    have ehy20 := G102_eq hy20
    simp only [E102, R102, nf, nfs] at ehy20
    obtain ⟨y21, hy21, hr⟩ := bs hr
    have ehy21 := G101_eq hy21
    simp only [E101, R101, nf, nfs] at ehy21
    obtain ⟨y22, hy22, hr⟩ := bs hr
    have ehy22 := G101_eq hy22
    simp only [E101, R101, nf, nfs] at ehy22
    refine ee_seq_reg rfl (by simp [hT102, ehy20, hT101, ehy21, ehy22, c12, c15, c19]; rfl) ?_
    refine ee_ret ?_
    obtain rfl := Option.some.inj hr
    simp [FinQ, hT102, ehy20, hT101, ehy21, ehy22, c12, c15, c19]
   ·skip
    rw [if_neg c19] at hr
    refine ee_condF (by simp [bV, c12, c15, c19]) ?_
    refine ee_skip ?_
    simp only [pq, reduceCtorEq]
    obtain ⟨y23, hy23, hr⟩ := bs hr
    have ehy23 := G102_eq hy23
    simp only [E102, R102, nf, nfs] at ehy23
    obtain ⟨y24, hy24, hr⟩ := bs hr
    have ehy24 := G101_eq hy24
    simp only [E101, R101, nf, nfs] at ehy24
    obtain ⟨y25, hy25, hr⟩ := bs hr
    have ehy25 := G101_eq hy25
    simp only [E101, R101, nf, nfs] at ehy25
    refine ee_seq_reg rfl (by simp [hT102, ehy23, hT101, ehy24, ehy25, c12, c15, c19]; rfl) ?_
    refine ee_ret ?_
    obtain rfl := Option.some.inj hr
    simp [FinQ, hT102, ehy23, hT101, ehy24, ehy25, c12, c15, c19]
def kp103 : Keep := fun i => ⟨[], [], []⟩
theorem w103 {T : Tab} (hT101 : T 101 = some G101) (a0 : (List Int)) (a1 : (Arr 32)) (x : (List Int)) (hr : Lref01_AppendHash a0 a1 = some x) : ∃ kp fl n, execFn tt T G kp fl n Tryd.f103 (E103 (a0, a1)) = some (R103 (a0, a1) x) := by
 simp only [E103, R103]
 refine fnE (kp := kp103) (w := true) body103 ?_
 unfold c103
 rw [Tryd.ntmps103]
 unfold Lref01_AppendHash at hr
 refine ee_seq_reg rfl (by simp []; rfl) ?_
 obtain ⟨y2, hy2, hr⟩ := bs hr
 have ehy2 := G101_eq hy2
 simp only [E101, R101, nf, nfs] at ehy2
 refine ee_seq_reg rfl (by simp [hT101, ehy2]; rfl) ?_
 refine ee_ret ?_
 obtain rfl := Option.some.inj hr
 simp [FinQ, hT101, ehy2]
def kp91 : Keep := fun i => ⟨[], [], []⟩
theorem w91 {T : Tab} (hT89 : T 89 = some G89) (hT103 : T 103 = some G103) (a0 : Tapi_OutPoint) (x : (List Int)) (hr : Lref09_Point a0 = some x) : ∃ kp fl n, execFn tt T G kp fl n Tryd.f91 (E91 a0) = some (R91 a0 x) := by
 simp only [E91, R91]
 refine fnE (kp := kp91) (w := true) body91 ?_
 unfold c91
 rw [Tryd.ntmps91]
 unfold Lref09_Point at hr
 refine ee_seq_reg rfl (by simp []; rfl) ?_
 obtain ⟨y3, hy3, hr⟩ := bs hr
 have ehy3 := G103_eq hy3
 simp only [E103, R103, nf, nfs] at ehy3
 obtain ⟨y4, hy4, hr⟩ := bs hr
 have ehy4 := G89_eq hy4
 simp only [E89, R89, nf, nfs] at ehy4
 refine ee_seq_draw rfl (by simp [hT103, ehy3, hT89, ehy4]; first | exact ⟨rfl, rfl⟩ | rfl) (by kernel_rfl) ?_
 refine ee_ret ?_
 obtain rfl := Option.some.inj hr
 simp [FinQ, hT103, ehy3, hT89, ehy4]
def kp93 : Keep := fun i => ⟨[], [], []⟩
theorem w93 {T : Tab} (hT90 : T 90 = some G90) (hT101 : T 101 = some G101) (a0 : (List Int)) (a1 : (List Int)) (x : (List Int)) (hr : Lref01_AppendBytes a0 a1 = some x) : ∃ kp fl n, execFn tt T G kp fl n Tryd.f93 (E93 (a0, a1)) = some (R93 (a0, a1) x) := by
 simp only [E93, R93]
 refine fnE (kp := kp93) (w := true) body93 ?_
 unfold c93
 rw [Tryd.ntmps93]
 unfold Lref01_AppendBytes at hr
 refine ee_seq_reg rfl (by simp []; rfl) ?_
 obtain ⟨y3, hy3, hr⟩ := bs hr
 have ehy3 := G90_eq hy3
 simp only [E90, R90, nf, nfs] at ehy3
 obtain ⟨y4, hy4, hr⟩ := bs hr
 have ehy4 := G101_eq hy4
 simp only [E101, R101, nf, nfs] at ehy4
 refine ee_seq_reg rfl (by simp [hT90, ehy3, hT101, ehy4]; rfl) ?_
 refine ee_ret ?_
 obtain rfl := Option.some.inj hr
 simp [FinQ, hT90, ehy3, hT101, ehy4]
def kp104 : Keep := fun i => ⟨[], [], []⟩
theorem w104 {T : Tab} (hT101 : T 101 = some G101) (hT102 : T 102 = some G102) (a0 : (List Int)) (a1 : Int) (x : (List Int)) (hr : Lref01_AppendU64 a0 a1 = some x) : ∃ kp fl n, execFn tt T G kp fl n Tryd.f104 (E104 (a0, a1)) = some (R104 (a0, a1) x) := by
 simp only [E104, R104]
 refine fnE (kp := kp104) (w := true) body104 ?_
 unfold c104
 rw [Tryd.ntmps104]
 unfold Lref01_AppendU64 at hr
 refine ee_seq_reg rfl (by simp []; rfl) ?_
 obtain ⟨y3, hy3, hr⟩ := bs hr
 have ehy3 := G102_eq hy3
 simp only [E102, R102, nf, nfs] at ehy3
 obtain ⟨y4, hy4, hr⟩ := bs hr
 have ehy4 := G101_eq hy4
 simp only [E101, R101, nf, nfs] at ehy4
 refine ee_seq_reg rfl (by simp [hT102, ehy3, hT101, ehy4]; rfl) ?_
 refine ee_ret ?_
 obtain rfl := Option.some.inj hr
 simp [FinQ, hT102, ehy3, hT101, ehy4]
def kp92 : Keep := fun i => ⟨[], [], []⟩
theorem w92 {T : Tab} (hT93 : T 93 = some G93) (hT104 : T 104 = some G104) (a0 : Tapi_Output) (x : (List Int)) (hr : Lref09_Out a0 = some x) : ∃ kp fl n, execFn tt T G kp fl n Tryd.f92 (E92 a0) = some (R92 a0 x) := by
 simp only [E92, R92]
 refine fnE (kp := kp92) (w := true) body92 ?_
 unfold c92
 rw [Tryd.ntmps92]
 unfold Lref09_Out at hr
 refine ee_seq_reg rfl (by simp []; rfl) ?_
 obtain ⟨y3, hy3, hr⟩ := bs hr
 have ehy3 := G104_eq hy3
 simp only [E104, R104, nf, nfs] at ehy3
 obtain ⟨y4, hy4, hr⟩ := bs hr
 have ehy4 := G93_eq hy4
 simp only [E93, R93, nf, nfs] at ehy4
 refine ee_seq_draw rfl (by simp [hT104, ehy3, hT93, ehy4]; first | exact ⟨rfl, rfl⟩ | rfl) (by kernel_rfl) ?_
 refine ee_ret ?_
 obtain rfl := Option.some.inj hr
 simp [FinQ, hT104, ehy3, hT93, ehy4]
end Go.Proofs.YtconfbgcjkjnkaaDoor
