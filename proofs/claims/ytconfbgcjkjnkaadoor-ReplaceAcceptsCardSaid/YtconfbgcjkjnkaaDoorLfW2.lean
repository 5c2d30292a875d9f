import Derived.Test.YtconfbgcjkjnkaaDoorLfK
import Derived.Test.YtconfbgcjkjnkaaDoorCode
namespace Go.Proofs.YtconfbgcjkjnkaaDoor
open Go.RowKit
open Go.Av
open Go.Lc
set_option maxRecDepth 100000
set_option linter.unusedSimpArgs false
set_option linter.unusedVariables false
set_option maxHeartbeats 4000000
def kp95 : Keep := fun i => if i = 4 then ⟨[1, 2, 5, 25, 26, 27], [2, 16], []⟩ else if i = 11 then ⟨[1, 2, 5, 50, 51, 52], [2, 16], []⟩ else if i = 20 then ⟨[5, 77, 78, 79], [16], []⟩ else if i = 24 then ⟨[5, 77, 78, 79, 91, 92, 93], [16], []⟩ else ⟨[], [], []⟩
theorem w95 {T : Tab} (hT106 : T 106 = some G106) (hT107 : T 107 = some G107) (hT108 : T 108 = some G108) (hT109 : T 109 = some G109) (hT110 : T 110 = some G110) (a0 : Tapi_Tx) (a1 : Bool) (x : (List Int)) (hr : Ltx_encode a0 a1 = some x) : ∃ kp fl n, execFn tt T G kp fl n Tryd.f95 (E95 (a0, a1)) = some (R95 (a0, a1) x) := by
 simp only [E95, R95]
 refine fnE (kp := kp95) (w := true) body95 ?_
 unfold c95
 rw [Tryd.ntmps95]
 unfold Ltx_encode at hr
 refine ee_seq_reg rfl (by simp []; rfl) ?_
 obtain ⟨y127, hy127, hr⟩ := bs hr
 have ehy127 := G106_eq hy127
 simp only [E106, R106, nf, nfs] at ehy127
 refine ee_seq_reg rfl (by simp [hT106, ehy127]; rfl) ?_
 obtain ⟨y128, hy128, hr⟩ := bs hr
 have ehy128 := G107_eq hy128
 simp only [E107, R107, nf, nfs] at ehy128
 obtain ⟨_, u129, hr⟩ := bs hr
 have u129_0 := chk_some u129
 have n1_u129_0 : y127.length + y128.length ≤ 140737488355328 := by omega
 have n2_u129_0 : y127.length + y128.length ≤ 9223372036854775807 := by omega
 refine ee_seq_reg rfl (by simp [hT107, ehy128, n1_u129_0, n2_u129_0]; rfl) ?_
 refine ee_assoc ?_
 refine ee_seq_reg rfl (by simp []; rfl) ?_
 refine ee_seq_block ?_
 refine ee_loop (kq := ⟨[1, 2, 5, 25, 26, 27], [2, 16], []⟩) (H := fun (s : Int × (List Int)) => match s with | (p16, p17) => (⟨(und 1 ++ ([.one (.v (.bool a1)), .ptr 2 0 0 0 4] ++ (und 2 ++ ([.one (.ms 16 0 0 (p17.length) 1)] ++ (und 19 ++ ([.one (.slice .no (List.map eapi_Input a0.2.1)), .one (.v (.int .i64 (a0.2.1.length : Int))), .one (.v (.int .i64 p16))] ++ (und 76)))))) : List PV), ([(2, ⟨0, 4, [[.v (.int .u32 a0.1), .slice .no (List.map eapi_Input a0.2.1), .slice .no (List.map eapi_Output a0.2.2.1), .v (.int .u32 a0.2.2.2)]], false, false⟩), (16, ⟨0, 1, intsR .u8 p17, false, true⟩)] : Boxes)⟩ : ASt)) (by kernel_rfl) hr (by simp [und, List.replicate, ]) ?_
 rintro ⟨p16, p17⟩ x130r hr130
 simp only [Ltx_encode_s1] at hr130
 unfold b95_1
 simp only [und, List.replicate, List.cons_append, List.nil_append]
 refine ee_seq_reg rfl (by simp []; rfl) ?_
 by_cases c131 : p16 < (a0.2.1.length : Int)
 ·skip
  have c131N := c131
  try simp at c131N
  first | have c131M : (_ = _) = True := eq_true c131N | have c131M := c131N
  rw [if_pos] at hr130
  rotate_left
  ·simp [c131, c131M]
  refine ee_seq_condT (by simp [bV, c131, c131M]) ?_
  refine ee_seq_skip ?_
  refine ee_seq_block ?_
  obtain ⟨x132, hx132, hr130⟩ := bs hr130
  obtain ⟨hx132a, hx132b⟩ := idx_some hx132
  have hx132c := getE_of hx132b
  refine ee_seq_reg rfl (by simp [hx132a, hx132b, hx132c, c131, c131M]; rfl) ?_
  obtain ⟨y133, hy133, hr130⟩ := bs hr130
  have ehy133 := G108_eq hy133
  simp only [E108, R108, nf, nfs] at ehy133
  obtain ⟨_, u134, hr130⟩ := bs hr130
  have u134_0 := chk_some u134
  have n1_u134_0 : p17.length + y133.length ≤ 140737488355328 := by omega
  have n2_u134_0 : p17.length + y133.length ≤ 9223372036854775807 := by omega
  refine ee_seq_reg rfl (by simp [hT108, ehy133, n1_u134_0, n2_u134_0, c131, c131M]; rfl) ?_
  obtain ⟨y135, hy135, hr130⟩ := bs hr130
  have ehy135 := G106_eq hy135
  simp only [E106, R106, nf, nfs] at ehy135
  obtain ⟨_, u136, hr130⟩ := bs hr130
  have u136_0 := chk_some u136
  have n1_u136_0 : p17.length + y133.length + y135.length ≤ 140737488355328 := by omega
  have n2_u136_0 : p17.length + y133.length + y135.length ≤ 9223372036854775807 := by omega
  refine ee_reg rfl (by simp [hT106, ehy135, n1_u136_0, n2_u136_0, c131, c131M]; rfl) ?_
  simp only [pq, reduceCtorEq]
  refine ee_reg rfl (by simp [c131, c131M]; rfl) ?_
  obtain rfl := Option.some.inj hr130
  simp only [pq, reduceCtorEq]
  simp [und, List.replicate, Nat.add_assoc, c131, c131M]
 ·skip
  have c131N := c131
  try simp at c131N
  first | have c131M : (_ = _) = True := eq_true c131N | have c131M := c131N
  rw [if_neg] at hr130
  rotate_left
  ·simp [c131, c131M]
  refine ee_seq_condF (by simp [bV, c131, c131M]) ?_
  refine ee_seq_exit ?_
  obtain ⟨r137, q137, rfl⟩ := ms hr130
  simp only [pq, reduceCtorEq]
  rintro rfl
  try simp only [pq, reduceCtorEq]
  unfold Ltx_encode_k1 at q137
  obtain ⟨y138, hy138, q137⟩ := bs q137
  have ehy138 := G107_eq hy138
  simp only [E107, R107, nf, nfs] at ehy138
  obtain ⟨_, u139, q137⟩ := bs q137
  have u139_0 := chk_some u139
  have n1_u139_0 : p17.length + y138.length ≤ 140737488355328 := by omega
  have n2_u139_0 : p17.length + y138.length ≤ 9223372036854775807 := by omega
  refine ee_seq_reg rfl (by simp [hT107, ehy138, n1_u139_0, n2_u139_0, c131, c131M]; rfl) ?_
  refine ee_assoc ?_
  refine ee_seq_reg rfl (by simp [c131, c131M]; rfl) ?_
  refine ee_seq_block ?_
  refine ee_loop (kq := ⟨[1, 2, 5, 50, 51, 52], [2, 16], []⟩) (H := fun (s : Int × (List Int)) => match s with | (p37, p38) => (⟨(und 1 ++ ([.one (.v (.bool a1)), .ptr 2 0 0 0 4] ++ (und 2 ++ ([.one (.ms 16 0 0 (p38.length) 1)] ++ (und 44 ++ ([.one (.slice .no (List.map eapi_Output a0.2.2.1)), .one (.v (.int .i64 (a0.2.2.1.length : Int))), .one (.v (.int .i64 p37))] ++ (und 51)))))) : List PV), ([(2, ⟨0, 4, [[.v (.int .u32 a0.1), .slice .no (List.map eapi_Input a0.2.1), .slice .no (List.map eapi_Output a0.2.2.1), .v (.int .u32 a0.2.2.2)]], false, false⟩), (16, ⟨0, 1, intsR .u8 p38, false, true⟩)] : Boxes)⟩ : ASt)) (by kernel_rfl) q137 (by simp [und, List.replicate, c131, c131M]) ?_
  rintro ⟨p37, p38⟩ x140r hr140
  simp only [Ltx_encode_s2] at hr140
  unfold b95_2
  simp only [und, List.replicate, List.cons_append, List.nil_append]
  refine ee_seq_reg rfl (by simp [c131, c131M]; rfl) ?_
  by_cases c141 : p37 < (a0.2.2.1.length : Int)
  ·skip
   have c141N := c141
   try simp at c141N
   first | have c141M : (_ = _) = True := eq_true c141N | have c141M := c141N
   rw [if_pos] at hr140
   rotate_left
   ·simp [c131, c131M, c141, c141M]
   refine ee_seq_condT (by simp [bV, c131, c131M, c141, c141M]) ?_
   refine ee_seq_skip ?_
   refine ee_seq_block ?_
   obtain ⟨x142, hx142, hr140⟩ := bs hr140
   obtain ⟨hx142a, hx142b⟩ := idx_some hx142
   have hx142c := getE_of hx142b
   refine ee_seq_reg rfl (by simp [hx142a, hx142b, hx142c, c131, c131M, c141, c141M]; rfl) ?_
   obtain ⟨y143, hy143, hr140⟩ := bs hr140
   have ehy143 := G109_eq hy143
   simp only [E109, R109, nf, nfs] at ehy143
   obtain ⟨_, u144, hr140⟩ := bs hr140
   have u144_0 := chk_some u144
   have n1_u144_0 : p38.length + y143.length ≤ 140737488355328 := by omega
   have n2_u144_0 : p38.length + y143.length ≤ 9223372036854775807 := by omega
   refine ee_seq_reg rfl (by simp [hT109, ehy143, n1_u144_0, n2_u144_0, c131, c131M, c141, c141M]; rfl) ?_
   obtain ⟨y145, hy145, hr140⟩ := bs hr140
   have ehy145 := G110_eq hy145
   simp only [E110, R110, nf, nfs] at ehy145
   obtain ⟨_, u146, hr140⟩ := bs hr140
   have u146_0 := chk_some u146
   have n1_u146_0 : p38.length + y143.length + y145.length ≤ 140737488355328 := by omega
   have n2_u146_0 : p38.length + y143.length + y145.length ≤ 9223372036854775807 := by omega
   refine ee_reg rfl (by simp [hT110, ehy145, n1_u146_0, n2_u146_0, c131, c131M, c141, c141M]; rfl) ?_
   simp only [pq, reduceCtorEq]
   refine ee_reg rfl (by simp [c131, c131M, c141, c141M]; rfl) ?_
   obtain rfl := Option.some.inj hr140
   simp only [pq, reduceCtorEq]
   simp [und, List.replicate, Nat.add_assoc, c131, c131M, c141, c141M]
  ·skip
   have c141N := c141
   try simp at c141N
   first | have c141M : (_ = _) = True := eq_true c141N | have c141M := c141N
   rw [if_neg] at hr140
   rotate_left
   ·simp [c131, c131M, c141, c141M]
   refine ee_seq_condF (by simp [bV, c131, c131M, c141, c141M]) ?_
   refine ee_seq_exit ?_
   obtain ⟨r147, q147, rfl⟩ := ms hr140
   simp only [pq, reduceCtorEq]
   rintro rfl
   try simp only [pq, reduceCtorEq]
   unfold Ltx_encode_k2 at q147
   obtain ⟨y148, hy148, q147⟩ := bs q147
   have ehy148 := G106_eq hy148
   simp only [E106, R106, nf, nfs] at ehy148
   obtain ⟨_, u149, q147⟩ := bs q147
   have u149_0 := chk_some u149
   have n1_u149_0 : p38.length + y148.length ≤ 140737488355328 := by omega
   have n2_u149_0 : p38.length + y148.length ≤ 9223372036854775807 := by omega
   refine ee_seq_reg rfl (by simp [hT106, ehy148, n1_u149_0, n2_u149_0, c131, c131M, c141, c141M]; rfl) ?_
   refine ee_assoc ?_
   refine ee_seq_reg rfl (by simp [c131, c131M, c141, c141M]; rfl) ?_
   by_cases c150 : a1 = true
   ·skip
    rw [if_neg (not_not_intro c150)] at q147
    refine ee_seq_condF (by simp [bV, c131, c131M, c141, c141M, c150]) ?_
    refine ee_seq_skip ?_
    refine ee_assoc ?_
    refine ee_seq_reg rfl (by simp [c131, c131M, c141, c141M, c150]; rfl) ?_
    refine ee_seq_block ?_
    refine ee_loop (kq := ⟨[5, 77, 78, 79], [16], []⟩) (H := fun (s : Int × (List Int)) => match s with | (p80, p81) => (⟨(und 5 ++ ([.one (.ms 16 0 0 (p81.length) 1)] ++ (und 71 ++ ([.one (.slice .no (List.map eapi_Input a0.2.1)), .one (.v (.int .i64 (a0.2.1.length : Int))), .one (.v (.int .i64 p80))] ++ (und 24)))) : List PV), ([(16, ⟨0, 1, intsR .u8 p81, false, true⟩)] : Boxes)⟩ : ASt)) (by kernel_rfl) q147 (by simp [und, List.replicate, c131, c131M, c141, c141M, c150]) ?_
    rintro ⟨p80, p81⟩ x151r hr151
    simp only [Ltx_encode_s3] at hr151
    unfold b95_3
    simp only [und, List.replicate, List.cons_append, List.nil_append]
    refine ee_seq_reg rfl (by simp [c131, c131M, c141, c141M, c150]; rfl) ?_
    by_cases c152 : p80 < (a0.2.1.length : Int)
    ·skip
     have c152N := c152
     try simp at c152N
     first | have c152M : (_ = _) = True := eq_true c152N | have c152M := c152N
     rw [if_pos] at hr151
     rotate_left
     ·simp [c131, c131M, c141, c141M, c150, c152, c152M]
     refine ee_seq_condT (by simp [bV, c131, c131M, c141, c141M, c150, c152, c152M]) ?_
     refine ee_seq_skip ?_
     refine ee_seq_block ?_
     obtain ⟨x153, hx153, hr151⟩ := bs hr151
     obtain ⟨hx153a, hx153b⟩ := idx_some hx153
     have hx153c := getE_of hx153b
     refine ee_seq_reg rfl (by simp [hx153a, hx153b, hx153c, c131, c131M, c141, c141M, c150, c152, c152M]; rfl) ?_
     obtain ⟨y154, hy154, hr151⟩ := bs hr151
     have ehy154 := G107_eq hy154
     simp only [E107, R107, nf, nfs] at ehy154
     obtain ⟨_, u155, hr151⟩ := bs hr151
     have u155_0 := chk_some u155
     have n1_u155_0 : p81.length + y154.length ≤ 140737488355328 := by omega
     have n2_u155_0 : p81.length + y154.length ≤ 9223372036854775807 := by omega
     refine ee_seq_reg rfl (by simp [hT107, ehy154, n1_u155_0, n2_u155_0, c131, c131M, c141, c141M, c150, c152, c152M]; rfl) ?_
     refine ee_seq_reg rfl (by simp [c131, c131M, c141, c141M, c150, c152, c152M]; rfl) ?_
     refine ee_block ?_
     refine ee_loop (kq := ⟨[5, 77, 78, 79, 91, 92, 93], [16], []⟩) (H := fun (s : Int × (List Int)) => match s with | (p109, p110) => (⟨(und 5 ++ ([.one (.ms 16 0 0 (p110.length) 1)] ++ (und 71 ++ ([.one (.slice .no (List.map eapi_Input a0.2.1)), .one (.v (.int .i64 (a0.2.1.length : Int))), .one (.v (.int .i64 p80))] ++ (und 11 ++ ([.one (.slice .no (List.map eS_I_u8 x153.2.2)), .one (.v (.int .i64 (x153.2.2.length : Int))), .one (.v (.int .i64 p109))] ++ (und 10)))))) : List PV), ([(16, ⟨0, 1, intsR .u8 p110, false, true⟩)] : Boxes)⟩ : ASt)) (by kernel_rfl) hr151 (by simp [und, List.replicate, c131, c131M, c141, c141M, c150, c152, c152M]) ?_
     rintro ⟨p109, p110⟩ x156r hr156
     simp only [Ltx_encode_s4] at hr156
     unfold b95_4
     simp only [und, List.replicate, List.cons_append, List.nil_append]
     refine ee_seq_reg rfl (by simp [c131, c131M, c141, c141M, c150, c152, c152M]; rfl) ?_
     by_cases c157 : p109 < (x153.2.2.length : Int)
     ·skip
      have c157N := c157
      try simp at c157N
      first | have c157M : (_ = _) = True := eq_true c157N | have c157M := c157N
      rw [if_pos] at hr156
      rotate_left
      ·simp [c131, c131M, c141, c141M, c150, c152, c152M, c157, c157M]
      refine ee_seq_condT (by simp [bV, c131, c131M, c141, c141M, c150, c152, c152M, c157, c157M]) ?_
      refine ee_seq_skip ?_
      refine ee_seq_block ?_
      obtain ⟨x158, hx158, hr156⟩ := bs hr156
      obtain ⟨hx158a, hx158b⟩ := idx_some hx158
      have hx158c := getE_of hx158b
      refine ee_seq_reg rfl (by simp [hx158a, hx158b, hx158c, c131, c131M, c141, c141M, c150, c152, c152M, c157, c157M]; rfl) ?_
      obtain ⟨y159, hy159, hr156⟩ := bs hr156
      have ehy159 := G110_eq hy159
      simp only [E110, R110, nf, nfs] at ehy159
      obtain ⟨_, u160, hr156⟩ := bs hr156
      have u160_0 := chk_some u160
      have n1_u160_0 : p110.length + y159.length ≤ 140737488355328 := by omega
      have n2_u160_0 : p110.length + y159.length ≤ 9223372036854775807 := by omega
      refine ee_reg rfl (by simp [hT110, ehy159, n1_u160_0, n2_u160_0, c131, c131M, c141, c141M, c150, c152, c152M, c157, c157M]; rfl) ?_
      simp only [pq, reduceCtorEq]
      refine ee_reg rfl (by simp [c131, c131M, c141, c141M, c150, c152, c152M, c157, c157M]; rfl) ?_
      obtain rfl := Option.some.inj hr156
      simp only [pq, reduceCtorEq]
      simp [und, List.replicate, Nat.add_assoc, c131, c131M, c141, c141M, c150, c152, c152M, c157, c157M]
     ·skip
      have c157N := c157
      try simp at c157N
      first | have c157M : (_ = _) = True := eq_true c157N | have c157M := c157N
      rw [if_neg] at hr156
      rotate_left
      ·simp [c131, c131M, c141, c141M, c150, c152, c152M, c157, c157M]
      refine ee_seq_condF (by simp [bV, c131, c131M, c141, c141M, c150, c152, c152M, c157, c157M]) ?_
      refine ee_seq_exit ?_
      obtain ⟨r161, q161, rfl⟩ := ms hr156
      simp only [pq, reduceCtorEq]
      rintro rfl
      try simp only [pq, reduceCtorEq]
      unfold Ltx_encode_k4 at q161
      refine ee_reg rfl (by simp [c131, c131M, c141, c141M, c150, c152, c152M, c157, c157M]; rfl) ?_
      obtain rfl := Option.some.inj q161
      simp only [pq, reduceCtorEq]
      simp [und, List.replicate, Nat.add_assoc, c131, c131M, c141, c141M, c150, c152, c152M, c157, c157M]
    ·skip
     have c152N := c152
     try simp at c152N
     first | have c152M : (_ = _) = True := eq_true c152N | have c152M := c152N
     rw [if_neg] at hr151
     rotate_left
     ·simp [c131, c131M, c141, c141M, c150, c152, c152M]
     refine ee_seq_condF (by simp [bV, c131, c131M, c141, c141M, c150, c152, c152M]) ?_
     refine ee_seq_exit ?_
     obtain ⟨r162, q162, rfl⟩ := ms hr151
     simp only [pq, reduceCtorEq]
     rintro rfl
     try simp only [pq, reduceCtorEq]
     unfold Ltx_encode_k3 at q162
     refine ee_seq_reg rfl (by simp [c131, c131M, c141, c141M, c150, c152, c152M]; rfl) ?_
     refine ee_ret ?_
     obtain rfl := Option.some.inj q162
     simp [FinQ, c131, c131M, c141, c141M, c150, c152, c152M]
   ·skip
    rw [if_pos c150] at q147
    refine ee_seq_condT (by simp [bV, c131, c131M, c141, c141M, c150]) ?_
    refine ee_assoc ?_
    refine ee_seq_reg rfl (by simp [c131, c131M, c141, c141M, c150]; rfl) ?_
    refine ee_seq_ret ?_
    obtain rfl := Option.some.inj q147
    simp [FinQ, c131, c131M, c141, c141M, c150]
def kp75 : Keep := fun i => if i = 4 then ⟨[1, 20, 21, 22], [1], []⟩ else if i = 10 then ⟨[1, 37, 38, 39], [1], []⟩ else if i = 15 then ⟨[1, 37, 38, 39, 48, 49, 50], [1], []⟩ else ⟨[], [], []⟩
theorem w75 {T : Tab} (hT95 : T 95 = some G95) (a0 : Tapi_Tx) (x : Bool) (hr : Ltx_fits a0 = some x) : ∃ kp fl n, execFn tt T G kp fl n Tryd.f75 (E75 a0) = some (R75 a0 x) := by
 simp only [E75, R75]
 refine fnE (kp := kp75) (w := false) body75 ?_
 unfold c75
 rw [Tryd.ntmps75]
 unfold Ltx_fits at hr
 refine ee_seq_reg rfl (by simp []; rfl) ?_
 refine ee_assoc ?_
 by_cases c35 : 64 < (a0.2.1.length : Int)
 ·skip
  have c35N := c35
  try simp at c35N
  first | have c35M : (_ = _) = True := eq_true c35N | have c35M := c35N
  refine ee_seq_reg rfl (by simp [c35, c35M]; rfl) ?_
  rw [if_pos] at hr
  rotate_left
  ·simp [c35, c35M]
  refine ee_seq_condT (by simp [bV, c35, c35M]) ?_
  refine ee_assoc ?_
  refine ee_seq_reg rfl (by simp [c35, c35M]; rfl) ?_
  refine ee_seq_ret ?_
  obtain rfl := Option.some.inj hr
  simp [FinQ, c35, c35M]
 ·skip
  have c35N := c35
  try simp at c35N
  first | have c35M : (_ = _) = True := eq_true c35N | have c35M := c35N
  refine ee_seq_reg rfl (by simp [c35, c35M]; rfl) ?_
  by_cases c36 : 64 < (a0.2.2.1.length : Int)
  ·skip
   have c36N := c36
   try simp at c36N
   first | have c36M : (_ = _) = True := eq_true c36N | have c36M := c36N
   rw [if_pos] at hr
   rotate_left
   ·simp [c35, c35M, c36, c36M]
   refine ee_seq_condT (by simp [bV, c35, c35M, c36, c36M]) ?_
   refine ee_assoc ?_
   refine ee_seq_reg rfl (by simp [c35, c35M, c36, c36M]; rfl) ?_
   refine ee_seq_ret ?_
   obtain rfl := Option.some.inj hr
   simp [FinQ, c35, c35M, c36, c36M]
  ·skip
   have c36N := c36
   try simp at c36N
   first | have c36M : (_ = _) = True := eq_true c36N | have c36M := c36N
   rw [if_neg] at hr
   rotate_left
   ·simp [c35, c35M, c36, c36M]
   refine ee_seq_condF (by simp [bV, c35, c35M, c36, c36M]) ?_
   refine ee_seq_skip ?_
   refine ee_assoc ?_
   refine ee_seq_reg rfl (by simp [c35, c35M, c36, c36M]; rfl) ?_
   refine ee_seq_block ?_
   refine ee_loop (kq := ⟨[1, 20, 21, 22], [1], []⟩) (H := fun (s : Int) => match s with | p4 => (⟨(und 1 ++ ([.ptr 1 0 0 0 4] ++ (und 18 ++ ([.one (.slice .no (List.map eapi_Output a0.2.2.1)), .one (.v (.int .i64 (a0.2.2.1.length : Int))), .one (.v (.int .i64 p4))] ++ (und 40)))) : List PV), ([(1, ⟨0, 4, [[.v (.int .u32 a0.1), .slice .no (List.map eapi_Input a0.2.1), .slice .no (List.map eapi_Output a0.2.2.1), .v (.int .u32 a0.2.2.2)]], false, false⟩)] : Boxes)⟩ : ASt)) (by kernel_rfl) hr (by simp [und, List.replicate, c35, c35M, c36, c36M]) ?_
   rintro p4 x37r hr37
   simp only [Ltx_fits_s1] at hr37
   unfold b75_1
   simp only [und, List.replicate, List.cons_append, List.nil_append]
   refine ee_seq_reg rfl (by simp [c35, c35M, c36, c36M]; rfl) ?_
   by_cases c38 : p4 < (a0.2.2.1.length : Int)
   ·skip
    have c38N := c38
    try simp at c38N
    first | have c38M : (_ = _) = True := eq_true c38N | have c38M := c38N
    rw [if_pos] at hr37
    rotate_left
    ·simp [c35, c35M, c36, c36M, c38, c38M]
    refine ee_seq_condT (by simp [bV, c35, c35M, c36, c36M, c38, c38M]) ?_
    refine ee_seq_skip ?_
    refine ee_seq_block ?_
    obtain ⟨x39, hx39, hr37⟩ := bs hr37
    obtain ⟨hx39a, hx39b⟩ := idx_some hx39
    have hx39c := getE_of hx39b
    refine ee_seq_reg rfl (by simp [hx39a, hx39b, hx39c, c35, c35M, c36, c36M, c38, c38M]; rfl) ?_
    by_cases c40 : x39.1 < 0
    ·skip
     refine ee_seq_reg rfl (by simp [c35, c35M, c36, c36M, c38, c38M, c40]; rfl) ?_
     rw [if_pos] at hr37
     rotate_left
     ·simp [c35, c35M, c36, c36M, c38, c38M, c40]
     refine ee_condT (by simp [bV, c35, c35M, c36, c36M, c38, c38M, c40]) ?_
     refine ee_seq_reg rfl (by simp [c35, c35M, c36, c36M, c38, c38M, c40]; rfl) ?_
     refine ee_ret ?_
     obtain rfl := Option.some.inj hr37
     simp only [pq, reduceCtorEq]
     rintro rfl
     simp [FinQ, c35, c35M, c36, c36M, c38, c38M, c40]
    ·skip
     refine ee_seq_reg rfl (by simp [c35, c35M, c36, c36M, c38, c38M, c40]; rfl) ?_
     by_cases c41 : 520 < (x39.2.length : Int)
     ·skip
      have c41N := c41
      try simp at c41N
      first | have c41M : (_ = _) = True := eq_true c41N | have c41M := c41N
      rw [if_pos] at hr37
      rotate_left
      ·simp [c35, c35M, c36, c36M, c38, c38M, c40, c41, c41M]
      refine ee_condT (by simp [bV, c35, c35M, c36, c36M, c38, c38M, c40, c41, c41M]) ?_
      refine ee_seq_reg rfl (by simp [c35, c35M, c36, c36M, c38, c38M, c40, c41, c41M]; rfl) ?_
      refine ee_ret ?_
      obtain rfl := Option.some.inj hr37
      simp only [pq, reduceCtorEq]
      rintro rfl
      simp [FinQ, c35, c35M, c36, c36M, c38, c38M, c40, c41, c41M]
     ·skip
      have c41N := c41
      try simp at c41N
      first | have c41M : (_ = _) = True := eq_true c41N | have c41M := c41N
      rw [if_neg] at hr37
      rotate_left
      ·simp [c35, c35M, c36, c36M, c38, c38M, c40, c41, c41M]
      refine ee_condF (by simp [bV, c35, c35M, c36, c36M, c38, c38M, c40, c41, c41M]) ?_
      refine ee_skip ?_
      simp only [pq, reduceCtorEq]
      refine ee_reg rfl (by simp [c35, c35M, c36, c36M, c38, c38M, c40, c41, c41M]; rfl) ?_
      obtain rfl := Option.some.inj hr37
      simp only [pq, reduceCtorEq]
      simp [und, List.replicate, Nat.add_assoc, c35, c35M, c36, c36M, c38, c38M, c40, c41, c41M]
   ·skip
    have c38N := c38
    try simp at c38N
    first | have c38M : (_ = _) = True := eq_true c38N | have c38M := c38N
    rw [if_neg] at hr37
    rotate_left
    ·simp [c35, c35M, c36, c36M, c38, c38M]
    refine ee_seq_condF (by simp [bV, c35, c35M, c36, c36M, c38, c38M]) ?_
    refine ee_seq_exit ?_
    obtain ⟨r42, q42, rfl⟩ := ms hr37
    simp only [pq, reduceCtorEq]
    rintro rfl
    try simp only [pq, reduceCtorEq]
    unfold Ltx_fits_k1 at q42
    refine ee_assoc ?_
    refine ee_seq_reg rfl (by simp [c35, c35M, c36, c36M, c38, c38M]; rfl) ?_
    refine ee_seq_block ?_
    refine ee_loop (kq := ⟨[1, 37, 38, 39], [1], []⟩) (H := fun (s : Int) => match s with | p19 => (⟨(und 1 ++ ([.ptr 1 0 0 0 4] ++ (und 35 ++ ([.one (.slice .no (List.map eapi_Input a0.2.1)), .one (.v (.int .i64 (a0.2.1.length : Int))), .one (.v (.int .i64 p19))] ++ (und 23)))) : List PV), ([(1, ⟨0, 4, [[.v (.int .u32 a0.1), .slice .no (List.map eapi_Input a0.2.1), .slice .no (List.map eapi_Output a0.2.2.1), .v (.int .u32 a0.2.2.2)]], false, false⟩)] : Boxes)⟩ : ASt)) (by kernel_rfl) q42 (by simp [und, List.replicate, c35, c35M, c36, c36M, c38, c38M]) ?_
    rintro p19 x43r hr43
    simp only [Ltx_fits_s2] at hr43
    unfold b75_2
    simp only [und, List.replicate, List.cons_append, List.nil_append]
    refine ee_seq_reg rfl (by simp [c35, c35M, c36, c36M, c38, c38M]; rfl) ?_
    by_cases c44 : p19 < (a0.2.1.length : Int)
    ·skip
     have c44N := c44
     try simp at c44N
     first | have c44M : (_ = _) = True := eq_true c44N | have c44M := c44N
     rw [if_pos] at hr43
     rotate_left
     ·simp [c35, c35M, c36, c36M, c38, c38M, c44, c44M]
     refine ee_seq_condT (by simp [bV, c35, c35M, c36, c36M, c38, c38M, c44, c44M]) ?_
     refine ee_seq_skip ?_
     refine ee_seq_block ?_
     obtain ⟨x45, hx45, hr43⟩ := bs hr43
     obtain ⟨hx45a, hx45b⟩ := idx_some hx45
     have hx45c := getE_of hx45b
     refine ee_seq_reg rfl (by simp [hx45a, hx45b, hx45c, c35, c35M, c36, c36M, c38, c38M, c44, c44M]; rfl) ?_
     refine ee_assoc ?_
     refine ee_seq_reg rfl (by simp [c35, c35M, c36, c36M, c38, c38M, c44, c44M]; rfl) ?_
     by_cases c46 : 32 < (x45.2.2.length : Int)
     ·skip
      have c46N := c46
      try simp at c46N
      first | have c46M : (_ = _) = True := eq_true c46N | have c46M := c46N
      rw [if_pos c46] at hr43
      refine ee_seq_condT (by simp [bV, c35, c35M, c36, c36M, c38, c38M, c44, c44M, c46, c46M]) ?_
      refine ee_assoc ?_
      refine ee_seq_reg rfl (by simp [c35, c35M, c36, c36M, c38, c38M, c44, c44M, c46, c46M]; rfl) ?_
      refine ee_seq_ret ?_
      obtain rfl := Option.some.inj hr43
      simp only [pq, reduceCtorEq]
      rintro rfl
      simp [FinQ, c35, c35M, c36, c36M, c38, c38M, c44, c44M, c46, c46M]
     ·skip
      have c46N := c46
      try simp at c46N
      first | have c46M : (_ = _) = True := eq_true c46N | have c46M := c46N
      rw [if_neg c46] at hr43
      refine ee_seq_condF (by simp [bV, c35, c35M, c36, c36M, c38, c38M, c44, c44M, c46, c46M]) ?_
      refine ee_seq_skip ?_
      refine ee_seq_reg rfl (by simp [c35, c35M, c36, c36M, c38, c38M, c44, c44M, c46, c46M]; rfl) ?_
      refine ee_block ?_
      refine ee_loop (kq := ⟨[1, 37, 38, 39, 48, 49, 50], [1], []⟩) (H := fun (s : Int) => match s with | p31 => (⟨(und 1 ++ ([.ptr 1 0 0 0 4] ++ (und 35 ++ ([.one (.slice .no (List.map eapi_Input a0.2.1)), .one (.v (.int .i64 (a0.2.1.length : Int))), .one (.v (.int .i64 p19))] ++ (und 8 ++ ([.one (.slice .no (List.map eS_I_u8 x45.2.2)), .one (.v (.int .i64 (x45.2.2.length : Int))), .one (.v (.int .i64 p31))] ++ (und 12)))))) : List PV), ([(1, ⟨0, 4, [[.v (.int .u32 a0.1), .slice .no (List.map eapi_Input a0.2.1), .slice .no (List.map eapi_Output a0.2.2.1), .v (.int .u32 a0.2.2.2)]], false, false⟩)] : Boxes)⟩ : ASt)) (by kernel_rfl) hr43 (by simp [und, List.replicate, c35, c35M, c36, c36M, c38, c38M, c44, c44M, c46, c46M]) ?_
      rintro p31 x47r hr47
      simp only [Ltx_fits_s3] at hr47
      unfold b75_3
      simp only [und, List.replicate, List.cons_append, List.nil_append]
      refine ee_seq_reg rfl (by simp [c35, c35M, c36, c36M, c38, c38M, c44, c44M, c46, c46M]; rfl) ?_
      by_cases c48 : p31 < (x45.2.2.length : Int)
      ·skip
       have c48N := c48
       try simp at c48N
       first | have c48M : (_ = _) = True := eq_true c48N | have c48M := c48N
       rw [if_pos] at hr47
       rotate_left
       ·simp [c35, c35M, c36, c36M, c38, c38M, c44, c44M, c46, c46M, c48, c48M]
       refine ee_seq_condT (by simp [bV, c35, c35M, c36, c36M, c38, c38M, c44, c44M, c46, c46M, c48, c48M]) ?_
       refine ee_seq_skip ?_
       refine ee_seq_block ?_
       obtain ⟨x49, hx49, hr47⟩ := bs hr47
       obtain ⟨hx49a, hx49b⟩ := idx_some hx49
       have hx49c := getE_of hx49b
       refine ee_seq_reg rfl (by simp [hx49a, hx49b, hx49c, c35, c35M, c36, c36M, c38, c38M, c44, c44M, c46, c46M, c48, c48M]; rfl) ?_
       refine ee_seq_reg rfl (by simp [c35, c35M, c36, c36M, c38, c38M, c44, c44M, c46, c46M, c48, c48M]; rfl) ?_
       by_cases c50 : 520 < (x49.length : Int)
       ·skip
        have c50N := c50
        try simp at c50N
        first | have c50M : (_ = _) = True := eq_true c50N | have c50M := c50N
        rw [if_pos c50] at hr47
        refine ee_condT (by simp [bV, c35, c35M, c36, c36M, c38, c38M, c44, c44M, c46, c46M, c48, c48M, c50, c50M]) ?_
        refine ee_seq_reg rfl (by simp [c35, c35M, c36, c36M, c38, c38M, c44, c44M, c46, c46M, c48, c48M, c50, c50M]; rfl) ?_
        refine ee_ret ?_
        obtain rfl := Option.some.inj hr47
        simp only [pq, reduceCtorEq]
        rintro rfl
        simp only [pq, reduceCtorEq]
        rintro rfl
        simp [FinQ, c35, c35M, c36, c36M, c38, c38M, c44, c44M, c46, c46M, c48, c48M, c50, c50M]
       ·skip
        have c50N := c50
        try simp at c50N
        first | have c50M : (_ = _) = True := eq_true c50N | have c50M := c50N
        rw [if_neg c50] at hr47
        refine ee_condF (by simp [bV, c35, c35M, c36, c36M, c38, c38M, c44, c44M, c46, c46M, c48, c48M, c50, c50M]) ?_
        refine ee_skip ?_
        simp only [pq, reduceCtorEq]
        refine ee_reg rfl (by simp [c35, c35M, c36, c36M, c38, c38M, c44, c44M, c46, c46M, c48, c48M, c50, c50M]; rfl) ?_
        obtain rfl := Option.some.inj hr47
        simp only [pq, reduceCtorEq]
        simp [und, List.replicate, Nat.add_assoc, c35, c35M, c36, c36M, c38, c38M, c44, c44M, c46, c46M, c48, c48M, c50, c50M]
      ·skip
       have c48N := c48
       try simp at c48N
       first | have c48M : (_ = _) = True := eq_true c48N | have c48M := c48N
       rw [if_neg] at hr47
       rotate_left
       ·simp [c35, c35M, c36, c36M, c38, c38M, c44, c44M, c46, c46M, c48, c48M]
       refine ee_seq_condF (by simp [bV, c35, c35M, c36, c36M, c38, c38M, c44, c44M, c46, c46M, c48, c48M]) ?_
       refine ee_seq_exit ?_
       obtain ⟨r51, q51, rfl⟩ := ms hr47
       simp only [pq, reduceCtorEq]
       rintro rfl
       try simp only [pq, reduceCtorEq]
       unfold Ltx_fits_k3 at q51
       refine ee_reg rfl (by simp [c35, c35M, c36, c36M, c38, c38M, c44, c44M, c46, c46M, c48, c48M]; rfl) ?_
       obtain rfl := Option.some.inj q51
       simp only [pq, reduceCtorEq]
       simp [und, List.replicate, Nat.add_assoc, c35, c35M, c36, c36M, c38, c38M, c44, c44M, c46, c46M, c48, c48M]
    ·skip
     have c44N := c44
     try simp at c44N
     first | have c44M : (_ = _) = True := eq_true c44N | have c44M := c44N
     rw [if_neg] at hr43
     rotate_left
     ·simp [c35, c35M, c36, c36M, c38, c38M, c44, c44M]
     refine ee_seq_condF (by simp [bV, c35, c35M, c36, c36M, c38, c38M, c44, c44M]) ?_
     refine ee_seq_exit ?_
     obtain ⟨r52, q52, rfl⟩ := ms hr43
     simp only [pq, reduceCtorEq]
     rintro rfl
     try simp only [pq, reduceCtorEq]
     unfold Ltx_fits_k2 at q52
     obtain ⟨y53, hy53, q52⟩ := bs q52
     have ehy53 := G95_eq hy53
     simp only [E95, R95, nf, nfs] at ehy53
     refine ee_seq_reg rfl (by simp [hT95, ehy53, c35, c35M, c36, c36M, c38, c38M, c44, c44M]; rfl) ?_
     refine ee_ret ?_
     obtain rfl := Option.some.inj q52
     simp [FinQ, hT95, ehy53, c35, c35M, c36, c36M, c38, c38M, c44, c44M]
def kp76 : Keep := fun i => if i = 3 then ⟨[3, 6, 7, 8], [], []⟩ else ⟨[], [], []⟩
theorem w76 {T : Tab} (a0 : (List Tapi_Output)) (x : Bool) (hr : Ltx_money a0 = some x) : ∃ kp fl n, execFn tt T G kp fl n Tryd.f76 (E76 a0) = some (R76 a0 x) := by
 simp only [E76, R76]
 refine fnE (kp := kp76) (w := false) body76 ?_
 unfold c76
 rw [Tryd.ntmps76]
 unfold Ltx_money at hr
 refine ee_seq_reg rfl (by simp []; rfl) ?_
 refine ee_seq_reg rfl (by simp []; rfl) ?_
 refine ee_assoc ?_
 refine ee_seq_reg rfl (by simp []; rfl) ?_
 refine ee_seq_block ?_
 refine ee_loop (kq := ⟨[3, 6, 7, 8], [], []⟩) (H := fun (s : Int × Int) => match s with | (p5, p6) => (⟨(und 3 ++ ([.one (.v (.int .i64 p5))] ++ (und 2 ++ ([.one (.slice .no (List.map eapi_Output a0)), .one (.v (.int .i64 (a0.length : Int))), .one (.v (.int .i64 p6))] ++ (und 13)))) : List PV), ([] : Boxes)⟩ : ASt)) (by kernel_rfl) hr (by simp [und, List.replicate, ]) ?_
 rintro ⟨p5, p6⟩ x9r hr9
 simp only [Ltx_money_s1] at hr9
 unfold b76_1
 simp only [und, List.replicate, List.cons_append, List.nil_append]
 refine ee_seq_reg rfl (by simp []; rfl) ?_
 by_cases c10 : p6 < (a0.length : Int)
 ·skip
  have c10N := c10
  try simp at c10N
  first | have c10M : (_ = _) = True := eq_true c10N | have c10M := c10N
  rw [if_pos] at hr9
  rotate_left
  ·simp [c10, c10M]
  refine ee_seq_condT (by simp [bV, c10, c10M]) ?_
  refine ee_seq_skip ?_
  refine ee_seq_block ?_
  obtain ⟨x11, hx11, hr9⟩ := bs hr9
  obtain ⟨hx11a, hx11b⟩ := idx_some hx11
  have hx11c := getE_of hx11b
  refine ee_seq_reg rfl (by simp [hx11a, hx11b, hx11c, c10, c10M]; rfl) ?_
  refine ee_assoc ?_
  refine ee_seq_reg rfl (by simp [c10, c10M]; rfl) ?_
  by_cases c12 : IntKind.i64.wrap (2100000000000000 - p5) < x11.1
  ·skip
   rw [if_pos] at hr9
   rotate_left
   ·simp [c10, c10M, c12]
   refine ee_seq_condT (by simp [bV, c10, c10M, c12]) ?_
   refine ee_assoc ?_
   refine ee_seq_reg rfl (by simp [c10, c10M, c12]; rfl) ?_
   refine ee_seq_ret ?_
   obtain rfl := Option.some.inj hr9
   simp only [pq, reduceCtorEq]
   rintro rfl
   simp [FinQ, c10, c10M, c12]
  ·skip
   rw [if_neg] at hr9
   rotate_left
   ·simp [c10, c10M, c12]
   refine ee_seq_condF (by simp [bV, c10, c10M, c12]) ?_
   refine ee_seq_skip ?_
   refine ee_reg rfl (by simp [c10, c10M, c12]; rfl) ?_
   simp only [pq, reduceCtorEq]
   refine ee_reg rfl (by simp [c10, c10M, c12]; rfl) ?_
   obtain rfl := Option.some.inj hr9
   simp only [pq, reduceCtorEq]
   simp [und, List.replicate, Nat.add_assoc, c10, c10M, c12]
 ·skip
  have c10N := c10
  try simp at c10N
  first | have c10M : (_ = _) = True := eq_true c10N | have c10M := c10N
  rw [if_neg] at hr9
  rotate_left
  ·simp [c10, c10M]
  refine ee_seq_condF (by simp [bV, c10, c10M]) ?_
  refine ee_seq_exit ?_
  obtain ⟨r13, q13, rfl⟩ := ms hr9
  simp only [pq, reduceCtorEq]
  rintro rfl
  try simp only [pq, reduceCtorEq]
  unfold Ltx_money_k1 at q13
  refine ee_seq_reg rfl (by simp [c10, c10M]; rfl) ?_
  refine ee_ret ?_
  obtain rfl := Option.some.inj q13
  simp [FinQ, c10, c10M]
def kp39 : Keep := fun i => if i = 9 then ⟨[1, 3, 25, 26, 27], [1, 1000000000023], []⟩ else ⟨[], [], []⟩
theorem w39 {T : Tab} (hT45 : T 45 = some G45) (hT75 : T 75 = some G75) (hT76 : T 76 = some G76) (a0 : Tapi_Tx) (x : Int) (hr : Ltx_Check a0 = some x) : ∃ kp fl n, execFn tt T G kp fl n Tryd.f39 (E39 a0) = some (R39 a0 x) := by
 simp only [E39, R39]
 refine fnE (kp := kp39) (w := false) body39 ?_
 unfold c39
 rw [Tryd.ntmps39]
 unfold Ltx_Check at hr
 refine ee_seq_reg rfl (by simp []; rfl) ?_
 refine ee_assoc ?_
 obtain ⟨y13, hy13, hr⟩ := bs hr
 have ehy13 := G75_eq hy13
 simp only [E75, R75, nf, nfs] at ehy13
 refine ee_seq_reg rfl (by simp [hT75, ehy13]; rfl) ?_
 by_cases c14 : y13 = true
 ·skip
  rw [if_neg (not_not_intro c14)] at hr
  refine ee_seq_condF (by simp [bV, c14]) ?_
  refine ee_seq_skip ?_
  refine ee_assoc ?_
  by_cases c15 : (a0.2.1.length : Int) = 0
  ·skip
   have c15N := c15
   try simp at c15N
   refine ee_seq_reg rfl (by simp [c14, eq_true c15, eq_true c15N]; rfl) ?_
   rw [if_pos] at hr
   rotate_left
   ·simp [c14, eq_true c15, eq_true c15N]
   refine ee_seq_condT (by simp [bV, c14, eq_true c15, eq_true c15N]) ?_
   refine ee_assoc ?_
   refine ee_seq_reg rfl (by simp [c14, eq_true c15, eq_true c15N]; rfl) ?_
   refine ee_seq_ret ?_
   obtain rfl := Option.some.inj hr
   simp [FinQ, c14, eq_true c15, eq_true c15N]
  ·skip
   have c15N := c15
   try simp at c15N
   first | have c15M : (_ = _) = True := eq_true c15N | have c15M := c15N
   refine ee_seq_reg rfl (by simp [c14, c15, c15M]; rfl) ?_
   by_cases c16 : (a0.2.2.1.length : Int) = 0
   ·skip
    have c16N := c16
    try simp at c16N
    rw [if_pos] at hr
    rotate_left
    ·simp [c14, c15, c15M, eq_true c16, eq_true c16N]
    refine ee_seq_condT (by simp [bV, c14, c15, c15M, eq_true c16, eq_true c16N]) ?_
    refine ee_assoc ?_
    refine ee_seq_reg rfl (by simp [c14, c15, c15M, eq_true c16, eq_true c16N]; rfl) ?_
    refine ee_seq_ret ?_
    obtain rfl := Option.some.inj hr
    simp [FinQ, c14, c15, c15M, eq_true c16, eq_true c16N]
   ·skip
    have c16N := c16
    try simp at c16N
    first | have c16M : (_ = _) = True := eq_true c16N | have c16M := c16N
    rw [if_neg] at hr
    rotate_left
    ·simp [c14, c15, c15M, c16, c16M]
    refine ee_seq_condF (by simp [bV, c14, c15, c15M, c16, c16M]) ?_
    refine ee_seq_skip ?_
    refine ee_assoc ?_
    obtain ⟨y17, hy17, hr⟩ := bs hr
    have ehy17 := G76_eq hy17
    simp only [E76, R76, nf, nfs] at ehy17
    refine ee_seq_reg rfl (by simp [hT76, ehy17, c14, c15, c15M, c16, c16M]; rfl) ?_
    by_cases c18 : y17 = true
    ·skip
     rw [if_neg (not_not_intro c18)] at hr
     refine ee_seq_condF (by simp [bV, c14, c15, c15M, c16, c16M, c18]) ?_
     refine ee_seq_skip ?_
     refine ee_seq_reg rfl (by simp [c14, c15, c15M, c16, c16M, c18]; rfl) ?_
     refine ee_assoc ?_
     refine ee_seq_reg rfl (by simp [c14, c15, c15M, c16, c16M, c18]; rfl) ?_
     refine ee_seq_block ?_
     refine ee_loop (kq := ⟨[1, 3, 25, 26, 27], [1, 1000000000023], []⟩) (H := fun (s : Int × (List (Tapi_OutPoint × Bool))) => match s with | (p7, p8) => (⟨(und 1 ++ ([.ptr 1 0 0 0 4] ++ (und 1 ++ ([.one (.mp 1000000000023 0)] ++ (und 21 ++ ([.one (.slice .no (List.map eapi_Input a0.2.1)), .one (.v (.int .i64 (a0.2.1.length : Int))), .one (.v (.int .i64 p7))] ++ (und 19)))))) : List PV), ([(1, ⟨0, 4, [[.v (.int .u32 a0.1), .slice .no (List.map eapi_Input a0.2.1), .slice .no (List.map eapi_Output a0.2.2.1), .v (.int .u32 a0.2.2.2)]], false, false⟩), (1000000000023, ⟨0, 6, ((arC .u8 (zA 32)) ++ ((.v (.int .u32 0)) :: [])) :: List.map eM_api_OutPoint_B p8, false, false⟩)] : Boxes)⟩ : ASt)) (by kernel_rfl) hr (by simp [und, List.replicate, c14, c15, c15M, c16, c16M, c18]) ?_
     rintro ⟨p7, p8⟩ x19r hr19
     simp only [Ltx_Check_s1] at hr19
     unfold b39_1
     simp only [und, List.replicate, List.cons_append, List.nil_append]
     refine ee_seq_reg rfl (by simp [c14, c15, c15M, c16, c16M, c18]; rfl) ?_
     by_cases c20 : p7 < (a0.2.1.length : Int)
     ·skip
      have c20N := c20
      try simp at c20N
      first | have c20M : (_ = _) = True := eq_true c20N | have c20M := c20N
      rw [if_pos] at hr19
      rotate_left
      ·simp [c14, c15, c15M, c16, c16M, c18, c20, c20M]
      refine ee_seq_condT (by simp [bV, c14, c15, c15M, c16, c16M, c18, c20, c20M]) ?_
      refine ee_seq_skip ?_
      refine ee_seq_block ?_
      obtain ⟨x21, hx21, hr19⟩ := bs hr19
      obtain ⟨hx21a, hx21b⟩ := idx_some hx21
      have hx21c := getE_of hx21b
      refine ee_seq_reg rfl (by simp [hx21a, hx21b, hx21c, c14, c15, c15M, c16, c16M, c18, c20, c20M]; rfl) ?_
      refine ee_assoc ?_
      refine ee_seq_reg rfl (by simp [c14, c15, c15M, c16, c16M, c18, c20, c20M]; rfl) ?_
      by_cases c22 : (mget x21.1 p8).getD false = true
      ·skip
       rw [if_pos] at hr19
       rotate_left
       ·simp [c14, c15, c15M, c16, c16M, c18, c20, c20M, c22]
       refine ee_seq_condT (by simp [bV, c14, c15, c15M, c16, c16M, c18, c20, c20M, c22]) ?_
       refine ee_assoc ?_
       refine ee_seq_reg rfl (by simp [c14, c15, c15M, c16, c16M, c18, c20, c20M, c22]; rfl) ?_
       refine ee_seq_ret ?_
       obtain rfl := Option.some.inj hr19
       simp only [pq, reduceCtorEq]
       rintro rfl
       simp [FinQ, c14, c15, c15M, c16, c16M, c18, c20, c20M, c22]
      ·skip
       rw [if_neg] at hr19
       rotate_left
       ·simp [c14, c15, c15M, c16, c16M, c18, c20, c20M, c22]
       refine ee_seq_condF (by simp [bV, c14, c15, c15M, c16, c16M, c18, c20, c20M, c22]) ?_
       refine ee_seq_skip ?_
       refine ee_reg rfl (by simp [c14, c15, c15M, c16, c16M, c18, c20, c20M, c22]; rfl) ?_
       simp only [pq, reduceCtorEq]
       refine ee_reg rfl (by simp [c14, c15, c15M, c16, c16M, c18, c20, c20M, c22]; rfl) ?_
       obtain rfl := Option.some.inj hr19
       simp only [pq, reduceCtorEq]
       simp [und, List.replicate, Nat.add_assoc, c14, c15, c15M, c16, c16M, c18, c20, c20M, c22]
     ·skip
      have c20N := c20
      try simp at c20N
      first | have c20M : (_ = _) = True := eq_true c20N | have c20M := c20N
      rw [if_neg] at hr19
      rotate_left
      ·simp [c14, c15, c15M, c16, c16M, c18, c20, c20M]
      refine ee_seq_condF (by simp [bV, c14, c15, c15M, c16, c16M, c18, c20, c20M]) ?_
      refine ee_seq_exit ?_
      obtain ⟨r23, q23, rfl⟩ := ms hr19
      simp only [pq, reduceCtorEq]
      rintro rfl
      try simp only [pq, reduceCtorEq]
      unfold Ltx_Check_k1 at q23
      refine ee_assoc ?_
      by_cases c24 : (mget (zA 32, 4294967295) p8).getD false = true
      ·skip
       rw [if_pos] at q23
       rotate_left
       ·simp [c14, c15, c15M, c16, c16M, c18, c20, c20M, c24]
       obtain ⟨z25, hz25, q23⟩ := bs q23
       obtain ⟨y26, hy26, hz25⟩ := bs hz25
       have ehy26 := G45_eq hy26
       simp only [E45, R45, nf, nfs] at ehy26
       obtain rfl := Option.some.inj hz25
       refine ee_seq_reg rfl (by simp [hT45, ehy26, c14, c15, c15M, c16, c16M, c18, c20, c20M, c24]; rfl) ?_
       by_cases c27 : y26 = true
       ·skip
        rw [if_neg] at q23
        rotate_left
        ·simp [c14, c15, c15M, c16, c16M, c18, c20, c20M, c24, c27]
        refine ee_seq_condF (by simp [bV, c14, c15, c15M, c16, c16M, c18, c20, c20M, c24, c27]) ?_
        refine ee_seq_skip ?_
        refine ee_seq_reg rfl (by simp [c14, c15, c15M, c16, c16M, c18, c20, c20M, c24, c27]; rfl) ?_
        refine ee_ret ?_
        obtain rfl := Option.some.inj q23
        simp [FinQ, c14, c15, c15M, c16, c16M, c18, c20, c20M, c24, c27]
       ·skip
        rw [if_pos] at q23
        rotate_left
        ·simp [c14, c15, c15M, c16, c16M, c18, c20, c20M, c24, c27]
        refine ee_seq_condT (by simp [bV, c14, c15, c15M, c16, c16M, c18, c20, c20M, c24, c27]) ?_
        refine ee_assoc ?_
        refine ee_seq_reg rfl (by simp [c14, c15, c15M, c16, c16M, c18, c20, c20M, c24, c27]; rfl) ?_
        refine ee_seq_ret ?_
        obtain rfl := Option.some.inj q23
        simp [FinQ, c14, c15, c15M, c16, c16M, c18, c20, c20M, c24, c27]
      ·skip
       rw [if_neg] at q23
       rotate_left
       ·simp [c14, c15, c15M, c16, c16M, c18, c20, c20M, c24]
       obtain ⟨z28, hz28, q23⟩ := bs q23
       obtain rfl := Option.some.inj hz28
       refine ee_seq_reg rfl (by simp [c14, c15, c15M, c16, c16M, c18, c20, c20M, c24]; rfl) ?_
       rw [if_neg] at q23
       rotate_left
       ·simp [c14, c15, c15M, c16, c16M, c18, c20, c20M, c24]
       refine ee_seq_condF (by simp [bV, c14, c15, c15M, c16, c16M, c18, c20, c20M, c24]) ?_
       refine ee_seq_skip ?_
       refine ee_seq_reg rfl (by simp [c14, c15, c15M, c16, c16M, c18, c20, c20M, c24]; rfl) ?_
       refine ee_ret ?_
       obtain rfl := Option.some.inj q23
       simp [FinQ, c14, c15, c15M, c16, c16M, c18, c20, c20M, c24]
    ·skip
     rw [if_pos c18] at hr
     refine ee_seq_condT (by simp [bV, c14, c15, c15M, c16, c16M, c18]) ?_
     refine ee_assoc ?_
     refine ee_seq_reg rfl (by simp [c14, c15, c15M, c16, c16M, c18]; rfl) ?_
     refine ee_seq_ret ?_
     obtain rfl := Option.some.inj hr
     simp [FinQ, c14, c15, c15M, c16, c16M, c18]
 ·skip
  rw [if_pos c14] at hr
  refine ee_seq_condT (by simp [bV, c14]) ?_
  refine ee_assoc ?_
  refine ee_seq_reg rfl (by simp [c14]; rfl) ?_
  refine ee_seq_ret ?_
  obtain rfl := Option.some.inj hr
  simp [FinQ, c14]
end Go.Proofs.YtconfbgcjkjnkaaDoor
