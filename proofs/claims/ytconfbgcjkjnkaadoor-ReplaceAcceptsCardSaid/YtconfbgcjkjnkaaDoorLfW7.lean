import Derived.Test.YtconfbgcjkjnkaaDoorLfK
import Derived.Test.YtconfbgcjkjnkaaDoorCode
namespace Go.Proofs.YtconfbgcjkjnkaaDoor
open Go.RowKit
open Go.Av
open Go.Lc
set_option maxRecDepth 100000
set_option linter.unusedSimpArgs false
set_option linter.unusedVariables false
set_option maxHeartbeats 4000000
def kp64 : Keep := fun i => if i = 4 then ⟨[1, 2, 5, 24, 25, 26], [2, 900005], [(5, none, 900005, 0), (5, none, 900005, 1)]⟩ else if i = 10 then ⟨[1, 2, 5, 46, 47, 48], [2, 44], []⟩ else if i = 16 then ⟨[1, 5, 62, 63, 64], [900005], [(5, none, 900005, 0), (5, none, 900005, 1)]⟩ else if i = 21 then ⟨[1, 5, 62, 63, 64, 77, 78, 79], [900005], [(5, none, 900005, 0), (5, none, 900005, 1)]⟩ else ⟨[], [], []⟩
theorem w64 {T : Tab} (hT89 : T 89 = some G89) (hT90 : T 90 = some G90) (hT91 : T 91 = some G91) (hT92 : T 92 = some G92) (hT93 : T 93 = some G93) (a0 : Tapi_Tx) (a1 : Bool) (x : (List Int)) (hr : Lref09_encode a0 a1 = some x) : ∃ kp fl n, execFn tt T G kp fl n Tryd.f64 (E64 (a0, a1)) = some (R64 (a0, a1) x) := by
 simp only [E64, R64]
 refine fnE (kp := kp64) (w := true) body64 ?_
 unfold c64
 rw [Tryd.ntmps64]
 unfold Lref09_encode at hr
 refine ee_seq_reg rfl (by simp []; rfl) ?_
 obtain ⟨y95, hy95, hr⟩ := bs hr
 have ehy95 := G89_eq hy95
 simp only [E89, R89, nf, nfs] at ehy95
 refine ee_seq_reg rfl (by simp [hT89, ehy95]; rfl) ?_
 obtain ⟨y96, hy96, hr⟩ := bs hr
 have ehy96 := G90_eq hy96
 simp only [E90, R90, nf, nfs] at ehy96
 refine ee_seq_reg rfl (by simp [hT90, ehy96]; rfl) ?_
 refine ee_assoc ?_
 refine ee_seq_reg rfl (by simp []; rfl) ?_
 refine ee_seq_block ?_
 refine ee_loop (kq := ⟨[1, 2, 5, 24, 25, 26], [2, 900005], [(5, none, 900005, 0), (5, none, 900005, 1)]⟩) (H := fun (s : Int × (List Int)) => match s with | (p13, p14) => (⟨(und 1 ++ ([.one (.v (.bool a1)), .ptr 2 0 0 0 4] ++ (und 2 ++ ([.one (.ms 900005 0 0 (p14.length) 1)] ++ (und 18 ++ ([.one (.slice .no (List.map eapi_Input a0.2.1)), .one (.v (.int .i64 (a0.2.1.length : Int))), .one (.v (.int .i64 p13))] ++ (und 62)))))) : List PV), ([(2, ⟨0, 4, [[.v (.int .u32 a0.1), .slice .no (List.map eapi_Input a0.2.1), .slice .no (List.map eapi_Output a0.2.2.1), .v (.int .u32 a0.2.2.2)]], false, false⟩), (900005, ⟨0, 1, intsR .u8 p14, false, true⟩)] : Boxes)⟩ : ASt)) (by kernel_rfl) hr (by simp [und, List.replicate, ]) ?_
 rintro ⟨p13, p14⟩ x97r hr97
 simp only [Lref09_encode_s1] at hr97
 unfold b64_1
 simp only [und, List.replicate, List.cons_append, List.nil_append]
 refine ee_seq_reg rfl (by simp []; rfl) ?_
 by_cases c98 : p13 < (a0.2.1.length : Int)
 ·skip
  have c98N := c98
  try simp at c98N
  first | have c98M : (_ = _) = True := eq_true c98N | have c98M := c98N
  rw [if_pos] at hr97
  rotate_left
  ·simp [c98, c98M]
  refine ee_seq_condT (by simp [bV, c98, c98M]) ?_
  refine ee_seq_skip ?_
  refine ee_seq_block ?_
  obtain ⟨x99, hx99, hr97⟩ := bs hr97
  obtain ⟨hx99a, hx99b⟩ := idx_some hx99
  have hx99c := getE_of hx99b
  refine ee_seq_reg rfl (by simp [hx99a, hx99b, hx99c, c98, c98M]; rfl) ?_
  obtain ⟨y100, hy100, hr97⟩ := bs hr97
  have ehy100 := G91_eq hy100
  simp only [E91, R91, nf, nfs] at ehy100
  obtain ⟨_, u101, hr97⟩ := bs hr97
  have u101_0 := chk_some u101
  have n1_u101_0 : p14.length + y100.length ≤ 140737488355328 := by omega
  have n2_u101_0 : p14.length + y100.length ≤ 9223372036854775807 := by omega
  obtain ⟨y102, hy102, hr97⟩ := bs hr97
  have ehy102 := G89_eq hy102
  simp only [E89, R89, nf, nfs] at ehy102
  refine ee_draw rfl (by simp [hT91, ehy100, n1_u101_0, n2_u101_0, hT89, ehy102, c98, c98M]; first | exact ⟨rfl, rfl⟩ | rfl) (by kernel_rfl) ?_
  simp only [pq, reduceCtorEq]
  refine ee_reg rfl (by simp [c98, c98M]; rfl) ?_
  obtain rfl := Option.some.inj hr97
  simp only [pq, reduceCtorEq]
  simp [und, List.replicate, Nat.add_assoc, c98, c98M]
 ·skip
  have c98N := c98
  try simp at c98N
  first | have c98M : (_ = _) = True := eq_true c98N | have c98M := c98N
  rw [if_neg] at hr97
  rotate_left
  ·simp [c98, c98M]
  refine ee_seq_condF (by simp [bV, c98, c98M]) ?_
  refine ee_seq_exit ?_
  obtain ⟨r103, q103, rfl⟩ := ms hr97
  simp only [pq, reduceCtorEq]
  rintro rfl
  try simp only [pq, reduceCtorEq]
  unfold Lref09_encode_k1 at q103
  obtain ⟨y104, hy104, q103⟩ := bs q103
  have ehy104 := G90_eq hy104
  simp only [E90, R90, nf, nfs] at ehy104
  refine ee_seq_reg rfl (by simp [hT90, ehy104, c98, c98M]; rfl) ?_
  refine ee_assoc ?_
  refine ee_seq_reg rfl (by simp [c98, c98M]; rfl) ?_
  refine ee_seq_block ?_
  refine ee_loop (kq := ⟨[1, 2, 5, 46, 47, 48], [2, 44], []⟩) (H := fun (s : Int × (List Int)) => match s with | (p28, p29) => (⟨(und 1 ++ ([.one (.v (.bool a1)), .ptr 2 0 0 0 4] ++ (und 2 ++ ([.one (.ms 44 0 0 (p29.length) 1)] ++ (und 40 ++ ([.one (.slice .no (List.map eapi_Output a0.2.2.1)), .one (.v (.int .i64 (a0.2.2.1.length : Int))), .one (.v (.int .i64 p28))] ++ (und 40)))))) : List PV), ([(2, ⟨0, 4, [[.v (.int .u32 a0.1), .slice .no (List.map eapi_Input a0.2.1), .slice .no (List.map eapi_Output a0.2.2.1), .v (.int .u32 a0.2.2.2)]], false, false⟩), (44, ⟨0, 1, intsR .u8 p29, false, true⟩)] : Boxes)⟩ : ASt)) (by kernel_rfl) q103 (by simp [und, List.replicate, c98, c98M]) ?_
  rintro ⟨p28, p29⟩ x105r hr105
  simp only [Lref09_encode_s2] at hr105
  unfold b64_2
  simp only [und, List.replicate, List.cons_append, List.nil_append]
  refine ee_seq_reg rfl (by simp [c98, c98M]; rfl) ?_
  by_cases c106 : p28 < (a0.2.2.1.length : Int)
  ·skip
   have c106N := c106
   try simp at c106N
   first | have c106M : (_ = _) = True := eq_true c106N | have c106M := c106N
   rw [if_pos] at hr105
   rotate_left
   ·simp [c98, c98M, c106, c106M]
   refine ee_seq_condT (by simp [bV, c98, c98M, c106, c106M]) ?_
   refine ee_seq_skip ?_
   refine ee_seq_block ?_
   obtain ⟨x107, hx107, hr105⟩ := bs hr105
   obtain ⟨hx107a, hx107b⟩ := idx_some hx107
   have hx107c := getE_of hx107b
   refine ee_seq_reg rfl (by simp [hx107a, hx107b, hx107c, c98, c98M, c106, c106M]; rfl) ?_
   obtain ⟨y108, hy108, hr105⟩ := bs hr105
   have ehy108 := G92_eq hy108
   simp only [E92, R92, nf, nfs] at ehy108
   obtain ⟨_, u109, hr105⟩ := bs hr105
   have u109_0 := chk_some u109
   have n1_u109_0 : p29.length + y108.length ≤ 140737488355328 := by omega
   have n2_u109_0 : p29.length + y108.length ≤ 9223372036854775807 := by omega
   refine ee_reg rfl (by simp [hT92, ehy108, n1_u109_0, n2_u109_0, c98, c98M, c106, c106M]; rfl) ?_
   simp only [pq, reduceCtorEq]
   refine ee_reg rfl (by simp [c98, c98M, c106, c106M]; rfl) ?_
   obtain rfl := Option.some.inj hr105
   simp only [pq, reduceCtorEq]
   simp [und, List.replicate, Nat.add_assoc, c98, c98M, c106, c106M]
  ·skip
   have c106N := c106
   try simp at c106N
   first | have c106M : (_ = _) = True := eq_true c106N | have c106M := c106N
   rw [if_neg] at hr105
   rotate_left
   ·simp [c98, c98M, c106, c106M]
   refine ee_seq_condF (by simp [bV, c98, c98M, c106, c106M]) ?_
   refine ee_seq_exit ?_
   obtain ⟨r110, q110, rfl⟩ := ms hr105
   simp only [pq, reduceCtorEq]
   rintro rfl
   try simp only [pq, reduceCtorEq]
   unfold Lref09_encode_k2 at q110
   obtain ⟨y111, hy111, q110⟩ := bs q110
   have ehy111 := G89_eq hy111
   simp only [E89, R89, nf, nfs] at ehy111
   refine ee_seq_reg rfl (by simp [hT89, ehy111, c98, c98M, c106, c106M]; rfl) ?_
   refine ee_assoc ?_
   refine ee_seq_reg rfl (by simp [c98, c98M, c106, c106M]; rfl) ?_
   refine ee_seq_block ?_
   refine ee_loop (kq := ⟨[1, 5, 62, 63, 64], [900005], [(5, none, 900005, 0), (5, none, 900005, 1)]⟩) (H := fun (s : Int × (List Int)) => match s with | (p60, p61) => (⟨(und 1 ++ ([.one (.v (.bool a1))] ++ (und 3 ++ ([.one (.ms 900005 0 0 (p61.length) 1)] ++ (und 56 ++ ([.one (.slice .no (List.map eapi_Input a0.2.1)), .one (.v (.int .i64 (a0.2.1.length : Int))), .one (.v (.int .i64 p60))] ++ (und 24)))))) : List PV), ([(900005, ⟨0, 1, intsR .u8 p61, false, true⟩)] : Boxes)⟩ : ASt)) (by kernel_rfl) q110 (by simp [und, List.replicate, c98, c98M, c106, c106M]) ?_
   rintro ⟨p60, p61⟩ x112r hr112
   simp only [Lref09_encode_s3] at hr112
   unfold b64_3
   simp only [und, List.replicate, List.cons_append, List.nil_append]
   refine ee_seq_reg rfl (by simp [c98, c98M, c106, c106M]; rfl) ?_
   by_cases c113 : p60 < (a0.2.1.length : Int)
   ·skip
    have c113N := c113
    try simp at c113N
    first | have c113M : (_ = _) = True := eq_true c113N | have c113M := c113N
    rw [if_pos] at hr112
    rotate_left
    ·simp [c98, c98M, c106, c106M, c113, c113M]
    refine ee_seq_condT (by simp [bV, c98, c98M, c106, c106M, c113, c113M]) ?_
    refine ee_seq_skip ?_
    refine ee_seq_block ?_
    obtain ⟨x114, hx114, hr112⟩ := bs hr112
    obtain ⟨hx114a, hx114b⟩ := idx_some hx114
    have hx114c := getE_of hx114b
    refine ee_seq_reg rfl (by simp [hx114a, hx114b, hx114c, c98, c98M, c106, c106M, c113, c113M]; rfl) ?_
    refine ee_assoc ?_
    refine ee_seq_reg rfl (by simp [c98, c98M, c106, c106M, c113, c113M]; rfl) ?_
    by_cases c115 : a1 = true
    ·skip
     rw [if_neg (not_not_intro c115)] at hr112
     refine ee_seq_condF (by simp [bV, c98, c98M, c106, c106M, c113, c113M, c115]) ?_
     refine ee_seq_skip ?_
     obtain ⟨y116, hy116, hr112⟩ := bs hr112
     have ehy116 := G90_eq hy116
     simp only [E90, R90, nf, nfs] at ehy116
     refine ee_seq_reg rfl (by simp [hT90, ehy116, c98, c98M, c106, c106M, c113, c113M, c115]; rfl) ?_
     refine ee_seq_reg rfl (by simp [c98, c98M, c106, c106M, c113, c113M, c115]; rfl) ?_
     refine ee_block ?_
     refine ee_loop (kq := ⟨[1, 5, 62, 63, 64, 77, 78, 79], [900005], [(5, none, 900005, 0), (5, none, 900005, 1)]⟩) (H := fun (s : Int × (List Int)) => match s with | (p82, p83) => (⟨(und 1 ++ ([.one (.v (.bool a1))] ++ (und 3 ++ ([.one (.ms 900005 0 0 (p83.length) 1)] ++ (und 56 ++ ([.one (.slice .no (List.map eapi_Input a0.2.1)), .one (.v (.int .i64 (a0.2.1.length : Int))), .one (.v (.int .i64 p60))] ++ (und 12 ++ ([.one (.slice .no (List.map eS_I_u8 x114.2.2)), .one (.v (.int .i64 (x114.2.2.length : Int))), .one (.v (.int .i64 p82))] ++ (und 9)))))))) : List PV), ([(900005, ⟨0, 1, intsR .u8 p83, false, true⟩)] : Boxes)⟩ : ASt)) (by kernel_rfl) hr112 (by simp [und, List.replicate, c98, c98M, c106, c106M, c113, c113M, c115]) ?_
     rintro ⟨p82, p83⟩ x117r hr117
     simp only [Lref09_encode_s4] at hr117
     unfold b64_4
     simp only [und, List.replicate, List.cons_append, List.nil_append]
     refine ee_seq_reg rfl (by simp [c98, c98M, c106, c106M, c113, c113M, c115]; rfl) ?_
     by_cases c118 : p82 < (x114.2.2.length : Int)
     ·skip
      have c118N := c118
      try simp at c118N
      first | have c118M : (_ = _) = True := eq_true c118N | have c118M := c118N
      rw [if_pos] at hr117
      rotate_left
      ·simp [c98, c98M, c106, c106M, c113, c113M, c115, c118, c118M]
      refine ee_seq_condT (by simp [bV, c98, c98M, c106, c106M, c113, c113M, c115, c118, c118M]) ?_
      refine ee_seq_skip ?_
      refine ee_seq_block ?_
      obtain ⟨x119, hx119, hr117⟩ := bs hr117
      obtain ⟨hx119a, hx119b⟩ := idx_some hx119
      have hx119c := getE_of hx119b
      refine ee_seq_reg rfl (by simp [hx119a, hx119b, hx119c, c98, c98M, c106, c106M, c113, c113M, c115, c118, c118M]; rfl) ?_
      obtain ⟨y120, hy120, hr117⟩ := bs hr117
      have ehy120 := G93_eq hy120
      simp only [E93, R93, nf, nfs] at ehy120
      refine ee_reg rfl (by simp [hT93, ehy120, c98, c98M, c106, c106M, c113, c113M, c115, c118, c118M]; rfl) ?_
      simp only [pq, reduceCtorEq]
      refine ee_reg rfl (by simp [c98, c98M, c106, c106M, c113, c113M, c115, c118, c118M]; rfl) ?_
      obtain rfl := Option.some.inj hr117
      simp only [pq, reduceCtorEq]
      simp [und, List.replicate, Nat.add_assoc, c98, c98M, c106, c106M, c113, c113M, c115, c118, c118M]
     ·skip
      have c118N := c118
      try simp at c118N
      first | have c118M : (_ = _) = True := eq_true c118N | have c118M := c118N
      rw [if_neg] at hr117
      rotate_left
      ·simp [c98, c98M, c106, c106M, c113, c113M, c115, c118, c118M]
      refine ee_seq_condF (by simp [bV, c98, c98M, c106, c106M, c113, c113M, c115, c118, c118M]) ?_
      refine ee_seq_exit ?_
      obtain ⟨r121, q121, rfl⟩ := ms hr117
      simp only [pq, reduceCtorEq]
      rintro rfl
      try simp only [pq, reduceCtorEq]
      unfold Lref09_encode_k4 at q121
      refine ee_reg rfl (by simp [c98, c98M, c106, c106M, c113, c113M, c115, c118, c118M]; rfl) ?_
      obtain rfl := Option.some.inj q121
      simp only [pq, reduceCtorEq]
      simp [und, List.replicate, Nat.add_assoc, c98, c98M, c106, c106M, c113, c113M, c115, c118, c118M]
    ·skip
     rw [if_pos c115] at hr112
     refine ee_seq_condT (by simp [bV, c98, c98M, c106, c106M, c113, c113M, c115]) ?_
     refine ee_seq_exit ?_
     obtain ⟨r122, q122, rfl⟩ := ms hr112
     simp only [pq, reduceCtorEq]
     rintro rfl
     try simp only [pq, reduceCtorEq]
     unfold Lref09_encode_k3 at q122
     refine ee_seq_reg rfl (by simp [c98, c98M, c106, c106M, c113, c113M, c115]; rfl) ?_
     refine ee_ret ?_
     obtain rfl := Option.some.inj q122
     simp [FinQ, c98, c98M, c106, c106M, c113, c113M, c115]
   ·skip
    have c113N := c113
    try simp at c113N
    first | have c113M : (_ = _) = True := eq_true c113N | have c113M := c113N
    rw [if_neg] at hr112
    rotate_left
    ·simp [c98, c98M, c106, c106M, c113, c113M]
    refine ee_seq_condF (by simp [bV, c98, c98M, c106, c106M, c113, c113M]) ?_
    refine ee_seq_exit ?_
    obtain ⟨r123, q123, rfl⟩ := ms hr112
    simp only [pq, reduceCtorEq]
    rintro rfl
    try simp only [pq, reduceCtorEq]
    unfold Lref09_encode_k3 at q123
    refine ee_seq_reg rfl (by simp [c98, c98M, c106, c106M, c113, c113M]; rfl) ?_
    refine ee_ret ?_
    obtain rfl := Option.some.inj q123
    simp [FinQ, c98, c98M, c106, c106M, c113, c113M]
def kp63 : Keep := fun i => if i = 4 then ⟨[1, 20, 21, 22], [1], []⟩ else if i = 10 then ⟨[1, 37, 38, 39], [1], []⟩ else if i = 15 then ⟨[1, 37, 38, 39, 48, 49, 50], [1], []⟩ else ⟨[], [], []⟩
theorem w63 {T : Tab} (hT64 : T 64 = some G64) (a0 : Tapi_Tx) (x : Bool) (hr : Lref09_Fits a0 = some x) : ∃ kp fl n, execFn tt T G kp fl n Tryd.f63 (E63 a0) = some (R63 a0 x) := by
 simp only [E63, R63]
 refine fnE (kp := kp63) (w := false) body63 ?_
 unfold c63
 rw [Tryd.ntmps63]
 unfold Lref09_Fits at hr
 refine ee_seq_reg rfl (by simp []; rfl) ?_
 refine ee_assoc ?_
 by_cases c35 : 64 < (a0.2.1.length : Int)
 ·skip
  have c35N := c35
  try simp at c35N
  first | have c35M : (_ = _) = True := eq_true c35N | have c35M := c35N
  refine ee_seq_reg rfl (by simp [c35, c35M]; rfl) ?_
  rw [if_pos] at hr
  rotate_left
  ·simp [c35, c35M]
  refine ee_seq_condT (by simp [bV, c35, c35M]) ?_
  refine ee_assoc ?_
  refine ee_seq_reg rfl (by simp [c35, c35M]; rfl) ?_
  refine ee_seq_ret ?_
  obtain rfl := Option.some.inj hr
  simp [FinQ, c35, c35M]
 ·skip
  have c35N := c35
  try simp at c35N
  first | have c35M : (_ = _) = True := eq_true c35N | have c35M := c35N
  refine ee_seq_reg rfl (by simp [c35, c35M]; rfl) ?_
  by_cases c36 : 64 < (a0.2.2.1.length : Int)
  ·skip
   have c36N := c36
   try simp at c36N
   first | have c36M : (_ = _) = True := eq_true c36N | have c36M := c36N
   rw [if_pos] at hr
   rotate_left
   ·simp [c35, c35M, c36, c36M]
   refine ee_seq_condT (by simp [bV, c35, c35M, c36, c36M]) ?_
   refine ee_assoc ?_
   refine ee_seq_reg rfl (by simp [c35, c35M, c36, c36M]; rfl) ?_
   refine ee_seq_ret ?_
   obtain rfl := Option.some.inj hr
   simp [FinQ, c35, c35M, c36, c36M]
  ·skip
   have c36N := c36
   try simp at c36N
   first | have c36M : (_ = _) = True := eq_true c36N | have c36M := c36N
   rw [if_neg] at hr
   rotate_left
   ·simp [c35, c35M, c36, c36M]
   refine ee_seq_condF (by simp [bV, c35, c35M, c36, c36M]) ?_
   refine ee_seq_skip ?_
   refine ee_assoc ?_
   refine ee_seq_reg rfl (by simp [c35, c35M, c36, c36M]; rfl) ?_
   refine ee_seq_block ?_
   refine ee_loop (kq := ⟨[1, 20, 21, 22], [1], []⟩) (H := fun (s : Int) => match s with | p4 => (⟨(und 1 ++ ([.ptr 1 0 0 0 4] ++ (und 18 ++ ([.one (.slice .no (List.map eapi_Output a0.2.2.1)), .one (.v (.int .i64 (a0.2.2.1.length : Int))), .one (.v (.int .i64 p4))] ++ (und 40)))) : List PV), ([(1, ⟨0, 4, [[.v (.int .u32 a0.1), .slice .no (List.map eapi_Input a0.2.1), .slice .no (List.map eapi_Output a0.2.2.1), .v (.int .u32 a0.2.2.2)]], false, false⟩)] : Boxes)⟩ : ASt)) (by kernel_rfl) hr (by simp [und, List.replicate, c35, c35M, c36, c36M]) ?_
   rintro p4 x37r hr37
   simp only [Lref09_Fits_s1] at hr37
   unfold b63_1
   simp only [und, List.replicate, List.cons_append, List.nil_append]
   refine ee_seq_reg rfl (by simp [c35, c35M, c36, c36M]; rfl) ?_
   by_cases c38 : p4 < (a0.2.2.1.length : Int)
   ·skip
    have c38N := c38
    try simp at c38N
    first | have c38M : (_ = _) = True := eq_true c38N | have c38M := c38N
    rw [if_pos] at hr37
    rotate_left
    ·simp [c35, c35M, c36, c36M, c38, c38M]
    refine ee_seq_condT (by simp [bV, c35, c35M, c36, c36M, c38, c38M]) ?_
    refine ee_seq_skip ?_
    refine ee_seq_block ?_
    obtain ⟨x39, hx39, hr37⟩ := bs hr37
    obtain ⟨hx39a, hx39b⟩ := idx_some hx39
    have hx39c := getE_of hx39b
    refine ee_seq_reg rfl (by simp [hx39a, hx39b, hx39c, c35, c35M, c36, c36M, c38, c38M]; rfl) ?_
    by_cases c40 : x39.1 < 0
    ·skip
     refine ee_seq_reg rfl (by simp [c35, c35M, c36, c36M, c38, c38M, c40]; rfl) ?_
     rw [if_pos] at hr37
     rotate_left
     ·simp [c35, c35M, c36, c36M, c38, c38M, c40]
     refine ee_condT (by simp [bV, c35, c35M, c36, c36M, c38, c38M, c40]) ?_
     refine ee_seq_reg rfl (by simp [c35, c35M, c36, c36M, c38, c38M, c40]; rfl) ?_
     refine ee_ret ?_
     obtain rfl := Option.some.inj hr37
     simp only [pq, reduceCtorEq]
     rintro rfl
     simp [FinQ, c35, c35M, c36, c36M, c38, c38M, c40]
    ·skip
     refine ee_seq_reg rfl (by simp [c35, c35M, c36, c36M, c38, c38M, c40]; rfl) ?_
     by_cases c41 : 520 < (x39.2.length : Int)
     ·skip
      have c41N := c41
      try simp at c41N
      first | have c41M : (_ = _) = True := eq_true c41N | have c41M := c41N
      rw [if_pos] at hr37
      rotate_left
      ·simp [c35, c35M, c36, c36M, c38, c38M, c40, c41, c41M]
      refine ee_condT (by simp [bV, c35, c35M, c36, c36M, c38, c38M, c40, c41, c41M]) ?_
      refine ee_seq_reg rfl (by simp [c35, c35M, c36, c36M, c38, c38M, c40, c41, c41M]; rfl) ?_
      refine ee_ret ?_
      obtain rfl := Option.some.inj hr37
      simp only [pq, reduceCtorEq]
      rintro rfl
      simp [FinQ, c35, c35M, c36, c36M, c38, c38M, c40, c41, c41M]
     ·skip
      have c41N := c41
      try simp at c41N
      first | have c41M : (_ = _) = True := eq_true c41N | have c41M := c41N
      rw [if_neg] at hr37
      rotate_left
      ·simp [c35, c35M, c36, c36M, c38, c38M, c40, c41, c41M]
      refine ee_condF (by simp [bV, c35, c35M, c36, c36M, c38, c38M, c40, c41, c41M]) ?_
      refine ee_skip ?_
      simp only [pq, reduceCtorEq]
      refine ee_reg rfl (by simp [c35, c35M, c36, c36M, c38, c38M, c40, c41, c41M]; rfl) ?_
      obtain rfl := Option.some.inj hr37
      simp only [pq, reduceCtorEq]
      simp [und, List.replicate, Nat.add_assoc, c35, c35M, c36, c36M, c38, c38M, c40, c41, c41M]
   ·skip
    have c38N := c38
    try simp at c38N
    first | have c38M : (_ = _) = True := eq_true c38N | have c38M := c38N
    rw [if_neg] at hr37
    rotate_left
    ·simp [c35, c35M, c36, c36M, c38, c38M]
    refine ee_seq_condF (by simp [bV, c35, c35M, c36, c36M, c38, c38M]) ?_
    refine ee_seq_exit ?_
    obtain ⟨r42, q42, rfl⟩ := ms hr37
    simp only [pq, reduceCtorEq]
    rintro rfl
    try simp only [pq, reduceCtorEq]
    unfold Lref09_Fits_k1 at q42
    refine ee_assoc ?_
    refine ee_seq_reg rfl (by simp [c35, c35M, c36, c36M, c38, c38M]; rfl) ?_
    refine ee_seq_block ?_
    refine ee_loop (kq := ⟨[1, 37, 38, 39], [1], []⟩) (H := fun (s : Int) => match s with | p19 => (⟨(und 1 ++ ([.ptr 1 0 0 0 4] ++ (und 35 ++ ([.one (.slice .no (List.map eapi_Input a0.2.1)), .one (.v (.int .i64 (a0.2.1.length : Int))), .one (.v (.int .i64 p19))] ++ (und 23)))) : List PV), ([(1, ⟨0, 4, [[.v (.int .u32 a0.1), .slice .no (List.map eapi_Input a0.2.1), .slice .no (List.map eapi_Output a0.2.2.1), .v (.int .u32 a0.2.2.2)]], false, false⟩)] : Boxes)⟩ : ASt)) (by kernel_rfl) q42 (by simp [und, List.replicate, c35, c35M, c36, c36M, c38, c38M]) ?_
    rintro p19 x43r hr43
    simp only [Lref09_Fits_s2] at hr43
    unfold b63_2
    simp only [und, List.replicate, List.cons_append, List.nil_append]
    refine ee_seq_reg rfl (by simp [c35, c35M, c36, c36M, c38, c38M]; rfl) ?_
    by_cases c44 : p19 < (a0.2.1.length : Int)
    ·skip
     have c44N := c44
     try simp at c44N
     first | have c44M : (_ = _) = True := eq_true c44N | have c44M := c44N
     rw [if_pos] at hr43
     rotate_left
     ·simp [c35, c35M, c36, c36M, c38, c38M, c44, c44M]
     refine ee_seq_condT (by simp [bV, c35, c35M, c36, c36M, c38, c38M, c44, c44M]) ?_
     refine ee_seq_skip ?_
     refine ee_seq_block ?_
     obtain ⟨x45, hx45, hr43⟩ := bs hr43
     obtain ⟨hx45a, hx45b⟩ := idx_some hx45
     have hx45c := getE_of hx45b
     refine ee_seq_reg rfl (by simp [hx45a, hx45b, hx45c, c35, c35M, c36, c36M, c38, c38M, c44, c44M]; rfl) ?_
     refine ee_assoc ?_
     refine ee_seq_reg rfl (by simp [c35, c35M, c36, c36M, c38, c38M, c44, c44M]; rfl) ?_
     by_cases c46 : 32 < (x45.2.2.length : Int)
     ·skip
      have c46N := c46
      try simp at c46N
      first | have c46M : (_ = _) = True := eq_true c46N | have c46M := c46N
      rw [if_pos c46] at hr43
      refine ee_seq_condT (by simp [bV, c35, c35M, c36, c36M, c38, c38M, c44, c44M, c46, c46M]) ?_
      refine ee_assoc ?_
      refine ee_seq_reg rfl (by simp [c35, c35M, c36, c36M, c38, c38M, c44, c44M, c46, c46M]; rfl) ?_
      refine ee_seq_ret ?_
      obtain rfl := Option.some.inj hr43
      simp only [pq, reduceCtorEq]
      rintro rfl
      simp [FinQ, c35, c35M, c36, c36M, c38, c38M, c44, c44M, c46, c46M]
     ·skip
      have c46N := c46
      try simp at c46N
      first | have c46M : (_ = _) = True := eq_true c46N | have c46M := c46N
      rw [if_neg c46] at hr43
      refine ee_seq_condF (by simp [bV, c35, c35M, c36, c36M, c38, c38M, c44, c44M, c46, c46M]) ?_
      refine ee_seq_skip ?_
      refine ee_seq_reg rfl (by simp [c35, c35M, c36, c36M, c38, c38M, c44, c44M, c46, c46M]; rfl) ?_
      refine ee_block ?_
      refine ee_loop (kq := ⟨[1, 37, 38, 39, 48, 49, 50], [1], []⟩) (H := fun (s : Int) => match s with | p31 => (⟨(und 1 ++ ([.ptr 1 0 0 0 4] ++ (und 35 ++ ([.one (.slice .no (List.map eapi_Input a0.2.1)), .one (.v (.int .i64 (a0.2.1.length : Int))), .one (.v (.int .i64 p19))] ++ (und 8 ++ ([.one (.slice .no (List.map eS_I_u8 x45.2.2)), .one (.v (.int .i64 (x45.2.2.length : Int))), .one (.v (.int .i64 p31))] ++ (und 12)))))) : List PV), ([(1, ⟨0, 4, [[.v (.int .u32 a0.1), .slice .no (List.map eapi_Input a0.2.1), .slice .no (List.map eapi_Output a0.2.2.1), .v (.int .u32 a0.2.2.2)]], false, false⟩)] : Boxes)⟩ : ASt)) (by kernel_rfl) hr43 (by simp [und, List.replicate, c35, c35M, c36, c36M, c38, c38M, c44, c44M, c46, c46M]) ?_
      rintro p31 x47r hr47
      simp only [Lref09_Fits_s3] at hr47
      unfold b63_3
      simp only [und, List.replicate, List.cons_append, List.nil_append]
      refine ee_seq_reg rfl (by simp [c35, c35M, c36, c36M, c38, c38M, c44, c44M, c46, c46M]; rfl) ?_
      by_cases c48 : p31 < (x45.2.2.length : Int)
      ·skip
       have c48N := c48
       try simp at c48N
       first | have c48M : (_ = _) = True := eq_true c48N | have c48M := c48N
       rw [if_pos] at hr47
       rotate_left
       ·simp [c35, c35M, c36, c36M, c38, c38M, c44, c44M, c46, c46M, c48, c48M]
       refine ee_seq_condT (by simp [bV, c35, c35M, c36, c36M, c38, c38M, c44, c44M, c46, c46M, c48, c48M]) ?_
       refine ee_seq_skip ?_
       refine ee_seq_block ?_
       obtain ⟨x49, hx49, hr47⟩ := bs hr47
       obtain ⟨hx49a, hx49b⟩ := idx_some hx49
       have hx49c := getE_of hx49b
       refine ee_seq_reg rfl (by simp [hx49a, hx49b, hx49c, c35, c35M, c36, c36M, c38, c38M, c44, c44M, c46, c46M, c48, c48M]; rfl) ?_
       refine ee_seq_reg rfl (by simp [c35, c35M, c36, c36M, c38, c38M, c44, c44M, c46, c46M, c48, c48M]; rfl) ?_
       by_cases c50 : 520 < (x49.length : Int)
       ·skip
        have c50N := c50
        try simp at c50N
        first | have c50M : (_ = _) = True := eq_true c50N | have c50M := c50N
        rw [if_pos c50] at hr47
        refine ee_condT (by simp [bV, c35, c35M, c36, c36M, c38, c38M, c44, c44M, c46, c46M, c48, c48M, c50, c50M]) ?_
        refine ee_seq_reg rfl (by simp [c35, c35M, c36, c36M, c38, c38M, c44, c44M, c46, c46M, c48, c48M, c50, c50M]; rfl) ?_
        refine ee_ret ?_
        obtain rfl := Option.some.inj hr47
        simp only [pq, reduceCtorEq]
        rintro rfl
        simp only [pq, reduceCtorEq]
        rintro rfl
        simp [FinQ, c35, c35M, c36, c36M, c38, c38M, c44, c44M, c46, c46M, c48, c48M, c50, c50M]
       ·skip
        have c50N := c50
        try simp at c50N
        first | have c50M : (_ = _) = True := eq_true c50N | have c50M := c50N
        rw [if_neg c50] at hr47
        refine ee_condF (by simp [bV, c35, c35M, c36, c36M, c38, c38M, c44, c44M, c46, c46M, c48, c48M, c50, c50M]) ?_
        refine ee_skip ?_
        simp only [pq, reduceCtorEq]
        refine ee_reg rfl (by simp [c35, c35M, c36, c36M, c38, c38M, c44, c44M, c46, c46M, c48, c48M, c50, c50M]; rfl) ?_
        obtain rfl := Option.some.inj hr47
        simp only [pq, reduceCtorEq]
        simp [und, List.replicate, Nat.add_assoc, c35, c35M, c36, c36M, c38, c38M, c44, c44M, c46, c46M, c48, c48M, c50, c50M]
      ·skip
       have c48N := c48
       try simp at c48N
       first | have c48M : (_ = _) = True := eq_true c48N | have c48M := c48N
       rw [if_neg] at hr47
       rotate_left
       ·simp [c35, c35M, c36, c36M, c38, c38M, c44, c44M, c46, c46M, c48, c48M]
       refine ee_seq_condF (by simp [bV, c35, c35M, c36, c36M, c38, c38M, c44, c44M, c46, c46M, c48, c48M]) ?_
       refine ee_seq_exit ?_
       obtain ⟨r51, q51, rfl⟩ := ms hr47
       simp only [pq, reduceCtorEq]
       rintro rfl
       try simp only [pq, reduceCtorEq]
       unfold Lref09_Fits_k3 at q51
       refine ee_reg rfl (by simp [c35, c35M, c36, c36M, c38, c38M, c44, c44M, c46, c46M, c48, c48M]; rfl) ?_
       obtain rfl := Option.some.inj q51
       simp only [pq, reduceCtorEq]
       simp [und, List.replicate, Nat.add_assoc, c35, c35M, c36, c36M, c38, c38M, c44, c44M, c46, c46M, c48, c48M]
    ·skip
     have c44N := c44
     try simp at c44N
     first | have c44M : (_ = _) = True := eq_true c44N | have c44M := c44N
     rw [if_neg] at hr43
     rotate_left
     ·simp [c35, c35M, c36, c36M, c38, c38M, c44, c44M]
     refine ee_seq_condF (by simp [bV, c35, c35M, c36, c36M, c38, c38M, c44, c44M]) ?_
     refine ee_seq_exit ?_
     obtain ⟨r52, q52, rfl⟩ := ms hr43
     simp only [pq, reduceCtorEq]
     rintro rfl
     try simp only [pq, reduceCtorEq]
     unfold Lref09_Fits_k2 at q52
     obtain ⟨y53, hy53, q52⟩ := bs q52
     have ehy53 := G64_eq hy53
     simp only [E64, R64, nf, nfs] at ehy53
     refine ee_seq_reg rfl (by simp [hT64, ehy53, c35, c35M, c36, c36M, c38, c38M, c44, c44M]; rfl) ?_
     refine ee_ret ?_
     obtain rfl := Option.some.inj q52
     simp [FinQ, hT64, ehy53, c35, c35M, c36, c36M, c38, c38M, c44, c44M]
def kp111 : Keep := fun i => if i = 2 then ⟨[0, 3], [5], []⟩ else if i = 5 then ⟨[0, 3, 4], [5], []⟩ else ⟨[], [], []⟩
theorem w111 {T : Tab} (a0 : Int) (x : (List Int)) (hr : Lref03_Pad a0 = some x) : ∃ kp fl n, execFn tt T G kp fl n Tryd.f111 (E111 a0) = some (R111 a0 x) := by
 simp only [E111, R111]
 refine fnE (kp := kp111) (w := true) body111 ?_
 unfold c111
 rw [Tryd.ntmps111]
 unfold Lref03_Pad at hr
 refine ee_seq_reg rfl (by simp []; rfl) ?_
 refine ee_seq_reg rfl (by simp []; rfl) ?_
 refine ee_seq_block ?_
 refine ee_loop (kq := ⟨[0, 3], [5], []⟩) (H := fun (s : (List Int)) => match s with | p4 => (⟨([.one (.v (.int .u64 a0))] ++ (und 2 ++ ([.one (.ms 5 0 0 (p4.length) 1)] ++ (und 27))) : List PV), ([(5, ⟨0, 1, intsR .u8 p4, false, true⟩)] : Boxes)⟩ : ASt)) (by kernel_rfl) hr (by simp [und, List.replicate, ]) ?_
 rintro p4 x19r hr19
 simp only [Lref03_Pad_s1] at hr19
 unfold b111_1
 simp only [und, List.replicate, List.cons_append, List.nil_append]
 refine ee_assoc ?_
 refine ee_seq_reg rfl (by simp []; rfl) ?_
 by_cases c20 : (IntKind.u64.wrap ((IntKind.u64.wrap (a0 + (IntKind.u64.wrap ((p4.length : Int))))) + 8)).tmod 64 = 0
 ·skip
  have c20N := c20
  try simp at c20N
  rw [if_neg] at hr19
  rotate_left
  ·simp [eq_true c20, eq_true c20N]
  refine ee_seq_condF (by simp [bV, eq_true c20, eq_true c20N]) ?_
  refine ee_seq_exit ?_
  obtain ⟨r21, q21, rfl⟩ := ms hr19
  simp only [pq, reduceCtorEq]
  rintro rfl
  try simp only [pq, reduceCtorEq]
  unfold Lref03_Pad_k1 at q21
  refine ee_assoc ?_
  refine ee_seq_reg rfl (by simp [eq_true c20, eq_true c20N]; rfl) ?_
  refine ee_seq_block ?_
  refine ee_loop (kq := ⟨[0, 3, 4], [5], []⟩) (H := fun (s : Int × (List Int)) => match s with | (p12, p13) => (⟨([.one (.v (.int .u64 a0))] ++ (und 2 ++ ([.one (.ms 5 0 0 (p13.length) 1), .one (.v (.int .i64 p12))] ++ (und 26))) : List PV), ([(5, ⟨0, 1, intsR .u8 p13, false, true⟩)] : Boxes)⟩ : ASt)) (by kernel_rfl) q21 (by simp [und, List.replicate, eq_true c20, eq_true c20N]) ?_
  rintro ⟨p12, p13⟩ x22r hr22
  simp only [Lref03_Pad_s2] at hr22
  unfold b111_2
  simp only [und, List.replicate, List.cons_append, List.nil_append]
  refine ee_assoc ?_
  refine ee_seq_reg rfl (by simp [eq_true c20, eq_true c20N]; rfl) ?_
  by_cases c23 : 0 ≤ p12
  ·skip
   rw [if_pos] at hr22
   rotate_left
   ·simp [eq_true c20, eq_true c20N, c23]
   refine ee_seq_condT (by simp [bV, eq_true c20, eq_true c20N, c23]) ?_
   refine ee_seq_skip ?_
   refine ee_seq_block ?_
   obtain ⟨_, u24, hr22⟩ := bs hr22
   have u24_0 := chk_some u24
   obtain ⟨_, u25, hr22⟩ := bs hr22
   have u25_0 := chk_some u25
   have n1_u25_0 : p13.length + 1 ≤ 140737488355328 := by omega
   have n2_u25_0 : p13.length + 1 ≤ 9223372036854775807 := by omega
   refine ee_reg rfl (by simp [u24_0, n1_u25_0, n2_u25_0, eq_true c20, eq_true c20N, c23]; rfl) ?_
   simp only [pq, reduceCtorEq]
   refine ee_reg rfl (by simp [eq_true c20, eq_true c20N, c23]; rfl) ?_
   obtain rfl := Option.some.inj hr22
   simp only [pq, reduceCtorEq]
   simp [und, List.replicate, Nat.add_assoc, eq_true c20, eq_true c20N, c23]
  ·skip
   rw [if_neg] at hr22
   rotate_left
   ·simp [eq_true c20, eq_true c20N, c23]
   refine ee_seq_condF (by simp [bV, eq_true c20, eq_true c20N, c23]) ?_
   refine ee_seq_exit ?_
   obtain ⟨r26, q26, rfl⟩ := ms hr22
   simp only [pq, reduceCtorEq]
   rintro rfl
   try simp only [pq, reduceCtorEq]
   unfold Lref03_Pad_k2 at q26
   refine ee_seq_reg rfl (by simp [eq_true c20, eq_true c20N, c23]; rfl) ?_
   refine ee_ret ?_
   obtain rfl := Option.some.inj q26
   simp [FinQ, eq_true c20, eq_true c20N, c23]
 ·skip
  have c20N := c20
  try simp at c20N
  first | have c20M : (_ = _) = True := eq_true c20N | have c20M := c20N
  rw [if_pos] at hr19
  rotate_left
  ·simp [c20, c20M]
  refine ee_seq_condT (by simp [bV, c20, c20M]) ?_
  refine ee_seq_skip ?_
  refine ee_block ?_
  obtain ⟨_, u27, hr19⟩ := bs hr19
  have u27_0 := chk_some u27
  have n1_u27_0 : p4.length + 1 ≤ 140737488355328 := by omega
  have n2_u27_0 : p4.length + 1 ≤ 9223372036854775807 := by omega
  refine ee_reg rfl (by simp [n1_u27_0, n2_u27_0, c20, c20M]; rfl) ?_
  obtain rfl := Option.some.inj hr19
  simp only [pq, reduceCtorEq]
  simp [und, List.replicate, Nat.add_assoc, n1_u27_0, n2_u27_0, c20, c20M]
def kp112 : Keep := fun i => ⟨[], [], []⟩
theorem w112 {T : Tab} (x : (Arr 8)) (hr : Lref03_Initial  = some x) : ∃ kp fl n, execFn tt T G kp fl n Tryd.f112 (E112 ()) = some (R112 () x) := by
 simp only [E112, R112]
 refine fnE (kp := kp112) (w := false) body112 ?_
 unfold c112
 rw [Tryd.ntmps112]
 unfold Lref03_Initial at hr
 refine ee_seq_reg rfl (by simp []; rfl) ?_
 have ap1 := arC_put (k := .u32) (zA 8) (i := 0) (by decide) (1779033703)
 have ap2 := arC_put (k := .u32) ((zA 8).put 0 1779033703) (i := 1) (by decide) (3144134277)
 have ap3 := arC_put (k := .u32) (((zA 8).put 0 1779033703).put 1 3144134277) (i := 2) (by decide) (1013904242)
 have ap4 := arC_put (k := .u32) ((((zA 8).put 0 1779033703).put 1 3144134277).put 2 1013904242) (i := 3) (by decide) (2773480762)
 have ap5 := arC_put (k := .u32) (((((zA 8).put 0 1779033703).put 1 3144134277).put 2 1013904242).put 3 2773480762) (i := 4) (by decide) (1359893119)
 have ap6 := arC_put (k := .u32) ((((((zA 8).put 0 1779033703).put 1 3144134277).put 2 1013904242).put 3 2773480762).put 4 1359893119) (i := 5) (by decide) (2600822924)
 have ap7 := arC_put (k := .u32) (((((((zA 8).put 0 1779033703).put 1 3144134277).put 2 1013904242).put 3 2773480762).put 4 1359893119).put 5 2600822924) (i := 6) (by decide) (528734635)
 have ap8 := arC_put (k := .u32) ((((((((zA 8).put 0 1779033703).put 1 3144134277).put 2 1013904242).put 3 2773480762).put 4 1359893119).put 5 2600822924).put 6 528734635) (i := 7) (by decide) (1541459225)
 refine ee_seq_reg rfl (by simp [ap1, ap2, ap3, ap4, ap5, ap6, ap7, ap8]; rfl) ?_
 refine ee_ret ?_
 obtain rfl := Option.some.inj hr
 simp [FinQ, ap1, ap2, ap3, ap4, ap5, ap6, ap7, ap8]
def kp121 : Keep := fun i => ⟨[], [], []⟩
theorem w121 {T : Tab} (hT125 : T 125 = some G125) (a0 : Int) (a1 : Int) (x : Int) (hr : Lref03_rotr a0 a1 = some x) : ∃ kp fl n, execFn tt T G kp fl n Tryd.f121 (E121 (a0, a1)) = some (R121 (a0, a1) x) := by
 simp only [E121, R121]
 refine fnE (kp := kp121) (w := false) body121 ?_
 unfold c121
 rw [Tryd.ntmps121]
 unfold Lref03_rotr at hr
 refine ee_seq_reg rfl (by simp []; rfl) ?_
 obtain ⟨y2, hy2, hr⟩ := bs hr
 have ehy2 := G125_eq hy2
 simp only [E125, R125, nf, nfs] at ehy2
 refine ee_seq_reg rfl (by simp [hT125, ehy2]; rfl) ?_
 refine ee_ret ?_
 obtain rfl := Option.some.inj hr
 simp [FinQ, hT125, ehy2]
def kp119 : Keep := fun i => if i = 3 then ⟨[1, 2, 3, 4], [1, 2, 3], []⟩ else if i = 7 then ⟨[2, 3, 5], [2, 3], []⟩ else ⟨[], [], []⟩
theorem w119 {T : Tab} (hT121 : T 121 = some G121) (a0 : (Arr 64)) (x : (Arr 64)) (hr : Lref03_schedule a0 = some x) : ∃ kp fl n, execFn tt T G kp fl n Tryd.f119 (E119 a0) = some (R119 a0 x) := by
 simp only [E119, R119]
 refine fnE (kp := kp119) (w := false) body119 ?_
 unfold c119
 rw [Tryd.ntmps119]
 unfold Lref03_schedule at hr
 refine ee_seq_reg rfl (by simp []; rfl) ?_
 refine ee_seq_reg rfl (by simp []; rfl) ?_
 refine ee_assoc ?_
 refine ee_seq_reg rfl (by simp []; rfl) ?_
 refine ee_seq_block ?_
 refine ee_loop (kq := ⟨[1, 2, 3, 4], [1, 2, 3], []⟩) (H := fun (s : Int × (Arr 64)) => match s with | (p12, p13) => (⟨(und 1 ++ ([.ptr 1 0 0 0 64, .ptr 2 0 0 0 64, .ptr 3 0 0 0 64, .one (.v (.int .i64 p12))] ++ (und 92)) : List PV), ([(1, ⟨0, 64, [arC .u8 a0], false, false⟩), (2, ⟨0, 64, [arC .u32 (zA 64)], false, false⟩), (3, ⟨0, 64, [arC .u32 p13], false, false⟩)] : Boxes)⟩ : ASt)) (by kernel_rfl) hr (by simp [und, List.replicate, ]) ?_
 rintro ⟨p12, p13⟩ x63r hr63
 simp only [Lref03_schedule_s1] at hr63
 unfold b119_1
 simp only [und, List.replicate, List.cons_append, List.nil_append]
 refine ee_assoc ?_
 refine ee_seq_reg rfl (by simp []; rfl) ?_
 by_cases c64 : p12 < 16
 ·skip
  rw [if_pos] at hr63
  rotate_left
  ·simp [c64]
  refine ee_seq_condT (by simp [bV, c64]) ?_
  refine ee_seq_skip ?_
  refine ee_seq_block ?_
  obtain ⟨j65, hj65, hr63⟩ := bs hr63
  obtain ⟨j65a, j65b, j65c⟩ := inA_some hj65
  have j65d : j65 ≤ 63 := by omega
  have ar66 := arC_get (k := .u8) (a0) (i := j65) j65c
  have as67 := arC_sub (k := .u8) (a0) (i := j65) j65c
  obtain ⟨j68, hj68, hr63⟩ := bs hr63
  obtain ⟨j68a, j68b, j68c⟩ := inA_some hj68
  have j68d : j68 ≤ 63 := by omega
  have ar69 := arC_get (k := .u8) (a0) (i := j68) j68c
  have as70 := arC_sub (k := .u8) (a0) (i := j68) j68c
  obtain ⟨j71, hj71, hr63⟩ := bs hr63
  obtain ⟨j71a, j71b, j71c⟩ := inA_some hj71
  have j71d : j71 ≤ 63 := by omega
  have ar72 := arC_get (k := .u8) (a0) (i := j71) j71c
  have as73 := arC_sub (k := .u8) (a0) (i := j71) j71c
  obtain ⟨j74, hj74, hr63⟩ := bs hr63
  obtain ⟨j74a, j74b, j74c⟩ := inA_some hj74
  have j74d : j74 ≤ 63 := by omega
  have ar75 := arC_get (k := .u8) (a0) (i := j74) j74c
  have as76 := arC_sub (k := .u8) (a0) (i := j74) j74c
  obtain ⟨j77, hj77, hr63⟩ := bs hr63
  obtain ⟨j77a, j77b, j77c⟩ := inA_some hj77
  have j77d : j77 ≤ 63 := by omega
  have ap78 := arC_put (k := .u32) (p13) (i := j77) j77c (bits .or .u32 (bits .or .u32 (bits .or .u32 (IntKind.u32.wrap ((IntKind.u32.wrap (a0.at j65)) * 16777216)) (IntKind.u32.wrap ((IntKind.u32.wrap (a0.at j68)) * 65536))) (IntKind.u32.wrap ((IntKind.u32.wrap (a0.at j71)) * 256))) (IntKind.u32.wrap (a0.at j74)))
  refine ee_draw rfl (by simp [j65a, j65b, j65c, j65d, ar66, as67, j68a, j68b, j68c, j68d, ar69, as70, j71a, j71b, j71c, j71d, ar72, as73, j74a, j74b, j74c, j74d, ar75, as76, j77a, j77b, j77c, j77d, ap78, c64]; first | exact ⟨rfl, rfl⟩ | rfl) (by kernel_rfl) ?_
  simp only [pq, reduceCtorEq]
  refine ee_reg rfl (by simp [c64]; rfl) ?_
  obtain rfl := Option.some.inj hr63
  simp only [pq, reduceCtorEq]
  simp [und, List.replicate, Nat.add_assoc, c64]
 ·skip
  rw [if_neg] at hr63
  rotate_left
  ·simp [c64]
  refine ee_seq_condF (by simp [bV, c64]) ?_
  refine ee_seq_exit ?_
  obtain ⟨r79, q79, rfl⟩ := ms hr63
  simp only [pq, reduceCtorEq]
  rintro rfl
  try simp only [pq, reduceCtorEq]
  unfold Lref03_schedule_k1 at q79
  refine ee_assoc ?_
  refine ee_seq_reg rfl (by simp [c64]; rfl) ?_
  refine ee_seq_block ?_
  refine ee_loop (kq := ⟨[2, 3, 5], [2, 3], []⟩) (H := fun (s : Int × (Arr 64)) => match s with | (p38, p39) => (⟨(und 2 ++ ([.ptr 2 0 0 0 64, .ptr 3 0 0 0 64] ++ (und 1 ++ ([.one (.v (.int .i64 p38))] ++ (und 91)))) : List PV), ([(2, ⟨0, 64, [arC .u32 (zA 64)], false, false⟩), (3, ⟨0, 64, [arC .u32 p39], false, false⟩)] : Boxes)⟩ : ASt)) (by kernel_rfl) q79 (by simp [und, List.replicate, c64]) ?_
  rintro ⟨p38, p39⟩ x80r hr80
  simp only [Lref03_schedule_s2] at hr80
  unfold b119_2
  simp only [und, List.replicate, List.cons_append, List.nil_append]
  refine ee_assoc ?_
  refine ee_seq_reg rfl (by simp [c64]; rfl) ?_
  by_cases c81 : p38 < 64
  ·skip
   rw [if_pos] at hr80
   rotate_left
   ·simp [c64, c81]
   refine ee_seq_condT (by simp [bV, c64, c81]) ?_
   refine ee_seq_skip ?_
   refine ee_seq_block ?_
   obtain ⟨j82, hj82, hr80⟩ := bs hr80
   obtain ⟨j82a, j82b, j82c⟩ := inA_some hj82
   have j82d : j82 ≤ 63 := by omega
   have ar83 := arC_get (k := .u32) (p39) (i := j82) j82c
   have as84 := arC_sub (k := .u32) (p39) (i := j82) j82c
   obtain ⟨y85, hy85, hr80⟩ := bs hr80
   have ehy85 := G121_eq hy85
   simp only [E121, R121, nf, nfs] at ehy85
   obtain ⟨j82a, j82b, j82c⟩ := inA_some hj82
   have j82d : j82 ≤ 63 := by omega
   have ar86 := arC_get (k := .u32) (p39) (i := j82) j82c
   have as87 := arC_sub (k := .u32) (p39) (i := j82) j82c
   obtain ⟨y88, hy88, hr80⟩ := bs hr80
   have ehy88 := G121_eq hy88
   simp only [E121, R121, nf, nfs] at ehy88
   obtain ⟨j82a, j82b, j82c⟩ := inA_some hj82
   have j82d : j82 ≤ 63 := by omega
   have ar89 := arC_get (k := .u32) (p39) (i := j82) j82c
   have as90 := arC_sub (k := .u32) (p39) (i := j82) j82c
   refine ee_seq_draw rfl (by simp [j82a, j82b, j82c, j82d, ar83, as84, hT121, ehy85, ar86, as87, ehy88, ar89, as90, c64, c81]; first | exact ⟨rfl, rfl⟩ | rfl) (by kernel_rfl) ?_
   obtain ⟨j91, hj91, hr80⟩ := bs hr80
   obtain ⟨j91a, j91b, j91c⟩ := inA_some hj91
   have j91d : j91 ≤ 63 := by omega
   have ar92 := arC_get (k := .u32) (p39) (i := j91) j91c
   have as93 := arC_sub (k := .u32) (p39) (i := j91) j91c
   obtain ⟨y94, hy94, hr80⟩ := bs hr80
   have ehy94 := G121_eq hy94
   simp only [E121, R121, nf, nfs] at ehy94
   obtain ⟨j91a, j91b, j91c⟩ := inA_some hj91
   have j91d : j91 ≤ 63 := by omega
   have ar95 := arC_get (k := .u32) (p39) (i := j91) j91c
   have as96 := arC_sub (k := .u32) (p39) (i := j91) j91c
   obtain ⟨y97, hy97, hr80⟩ := bs hr80
   have ehy97 := G121_eq hy97
   simp only [E121, R121, nf, nfs] at ehy97
   obtain ⟨j91a, j91b, j91c⟩ := inA_some hj91
   have j91d : j91 ≤ 63 := by omega
   have ar98 := arC_get (k := .u32) (p39) (i := j91) j91c
   have as99 := arC_sub (k := .u32) (p39) (i := j91) j91c
   refine ee_seq_draw rfl (by simp [j91a, j91b, j91c, j91d, ar92, as93, hT121, ehy94, ar95, as96, ehy97, ar98, as99, c64, c81]; first | exact ⟨rfl, rfl⟩ | rfl) (by kernel_rfl) ?_
   obtain ⟨j100, hj100, hr80⟩ := bs hr80
   obtain ⟨j100a, j100b, j100c⟩ := inA_some hj100
   have j100d : j100 ≤ 63 := by omega
   have ar101 := arC_get (k := .u32) (p39) (i := j100) j100c
   have as102 := arC_sub (k := .u32) (p39) (i := j100) j100c
   obtain ⟨j103, hj103, hr80⟩ := bs hr80
   obtain ⟨j103a, j103b, j103c⟩ := inA_some hj103
   have j103d : j103 ≤ 63 := by omega
   have ar104 := arC_get (k := .u32) (p39) (i := j103) j103c
   have as105 := arC_sub (k := .u32) (p39) (i := j103) j103c
   obtain ⟨j106, hj106, hr80⟩ := bs hr80
   obtain ⟨j106a, j106b, j106c⟩ := inA_some hj106
   have j106d : j106 ≤ 63 := by omega
   have ap107 := arC_put (k := .u32) (p39) (i := j106) j106c (IntKind.u32.wrap ((IntKind.u32.wrap ((IntKind.u32.wrap ((p39.at j100) + (bits .xor .u32 (bits .xor .u32 y85 y88) ((p39.at j82).fdiv 8)))) + (p39.at j103))) + (bits .xor .u32 (bits .xor .u32 y94 y97) ((p39.at j91).fdiv 1024))))
   refine ee_draw rfl (by simp [j100a, j100b, j100c, j100d, ar101, as102, j103a, j103b, j103c, j103d, ar104, as105, j106a, j106b, j106c, j106d, ap107, c64, c81]; first | exact ⟨rfl, rfl⟩ | rfl) (by kernel_rfl) ?_
   simp only [pq, reduceCtorEq]
   refine ee_reg rfl (by simp [c64, c81]; rfl) ?_
   obtain rfl := Option.some.inj hr80
   simp only [pq, reduceCtorEq]
   simp [und, List.replicate, Nat.add_assoc, c64, c81]
  ·skip
   rw [if_neg] at hr80
   rotate_left
   ·simp [c64, c81]
   refine ee_seq_condF (by simp [bV, c64, c81]) ?_
   refine ee_seq_exit ?_
   obtain ⟨r108, q108, rfl⟩ := ms hr80
   simp only [pq, reduceCtorEq]
   rintro rfl
   try simp only [pq, reduceCtorEq]
   unfold Lref03_schedule_k2 at q108
   refine ee_seq_reg rfl (by simp [c64, c81]; rfl) ?_
   refine ee_ret ?_
   obtain rfl := Option.some.inj q108
   simp [FinQ, c64, c81]
end Go.Proofs.YtconfbgcjkjnkaaDoor
