import Derived.Test.YtconfbgcjkjnkaaDoorLfK
import Derived.Test.YtconfbgcjkjnkaaDoorCode
namespace Go.Proofs.YtconfbgcjkjnkaaDoor
open Go.RowKit
open Go.Av
open Go.Lc
set_option maxRecDepth 100000
set_option linter.unusedSimpArgs false
set_option linter.unusedVariables false
set_option maxHeartbeats 4000000
def kp110 : Keep := fun i => ⟨[], [], []⟩
theorem w110 {T : Tab} (hT107 : T 107 = some G_Lcodec_AppendSize) (hT115 : T 115 = some G_Lcodec_extend) (a0 : (List Int)) (a1 : (List Int)) (x : (List Int)) (hr : Lcodec_AppendBytes a0 a1 = some x) : ∃ kp fl n, execFn tt T G kp fl n Tryd.f110 [.one (.slice .no (intsR .u8 a0)), .one (.slice .no (intsR .u8 a1))] = some (.one (.own 1 (intsR .u8 x)), []) := by
  refine fnE (kp := kp110) (w := true) body110 ?_
  unfold c110
  rw [Tryd.ntmps110]
  unfold Lcodec_AppendBytes at hr
  refine ee_seq_reg rfl (by simp [-chunk, -Cell.isSl, -callOp, callOp_eq, ]; rfl) ?_
  obtain ⟨y3, hy3, hr⟩ := Option.bind_eq_some_iff.1 hr
  have ehy3 := G_Lcodec_AppendSize_eq hy3
  try simp only [intsR_nil, intsR_cons, intsR_app, intsR_tk, intsR_dr, intsR_st, intsR_rep, List.map_nil, List.map_cons, List.map_append, List.map_take, List.map_drop, List.map_set, List.map_replicate, List.nil_append, List.cons_append, List.append_assoc, eS_I_u8, eapi_Input, eapi_Output] at ehy3
  obtain ⟨y4, hy4, hr⟩ := Option.bind_eq_some_iff.1 hr
  have ehy4 := G_Lcodec_extend_eq hy4
  try simp only [intsR_nil, intsR_cons, intsR_app, intsR_tk, intsR_dr, intsR_st, intsR_rep, List.map_nil, List.map_cons, List.map_append, List.map_take, List.map_drop, List.map_set, List.map_replicate, List.nil_append, List.cons_append, List.append_assoc, eS_I_u8, eapi_Input, eapi_Output] at ehy4
  refine ee_seq_reg rfl (by simp [-chunk, -Cell.isSl, -callOp, callOp_eq, hT107, ehy3, hT115, ehy4]; rfl) ?_
  refine ee_ret ?_
  obtain rfl := Option.some.inj hr
  simp [FinQ, -chunk, -Cell.isSl, -callOp, callOp_eq, hT107, ehy3, hT115, ehy4]
def kp95 : Keep := fun i => if i = 4 then ⟨[1, 2, 5, 25, 26, 27], [2, 16], []⟩ else if i = 11 then ⟨[1, 2, 5, 50, 51, 52], [2, 16], []⟩ else if i = 20 then ⟨[5, 77, 78, 79], [16], []⟩ else if i = 24 then ⟨[5, 77, 78, 79, 91, 92, 93], [16], []⟩ else ⟨[], [], []⟩
theorem w95 {T : Tab} (hT106 : T 106 = some G_Lcodec_AppendU32) (hT107 : T 107 = some G_Lcodec_AppendSize) (hT108 : T 108 = some G_Ltx_Point) (hT109 : T 109 = some G_Lcodec_AppendU64) (hT110 : T 110 = some G_Lcodec_AppendBytes) (a0 : Tapi_Tx) (a1 : Bool) (x : (List Int)) (hr : Ltx_encode a0 a1 = some x) : ∃ kp fl n, execFn tt T G kp fl n Tryd.f95 [.agg ([.v (.int .u32 a0.1), .slice .no (List.map eapi_Input a0.2.1), .slice .no (List.map eapi_Output a0.2.2.1), .v (.int .u32 a0.2.2.2)]), .one (.v (.bool a1))] = some (.one (.own 1 (intsR .u8 x)), []) := by
  refine fnE (kp := kp95) (w := true) body95 ?_
  unfold c95
  rw [Tryd.ntmps95]
  unfold Ltx_encode at hr
  refine ee_seq_reg rfl (by simp [-chunk, -Cell.isSl, -callOp, callOp_eq, ]; rfl) ?_
  obtain ⟨y127, hy127, hr⟩ := Option.bind_eq_some_iff.1 hr
  have ehy127 := G_Lcodec_AppendU32_eq hy127
  try simp only [intsR_nil, intsR_cons, intsR_app, intsR_tk, intsR_dr, intsR_st, intsR_rep, List.map_nil, List.map_cons, List.map_append, List.map_take, List.map_drop, List.map_set, List.map_replicate, List.nil_append, List.cons_append, List.append_assoc, eS_I_u8, eapi_Input, eapi_Output] at ehy127
  refine ee_seq_reg rfl (by simp [-chunk, -Cell.isSl, -callOp, callOp_eq, hT106, ehy127]; rfl) ?_
  obtain ⟨y128, hy128, hr⟩ := Option.bind_eq_some_iff.1 hr
  have ehy128 := G_Lcodec_AppendSize_eq hy128
  try simp only [intsR_nil, intsR_cons, intsR_app, intsR_tk, intsR_dr, intsR_st, intsR_rep, List.map_nil, List.map_cons, List.map_append, List.map_take, List.map_drop, List.map_set, List.map_replicate, List.nil_append, List.cons_append, List.append_assoc, eS_I_u8, eapi_Input, eapi_Output] at ehy128
  obtain ⟨_, u129, hr⟩ := Option.bind_eq_some_iff.1 hr
  have u129_0 := chk_some u129
  have n1_u129_0 : y127.length + y128.length ≤ 140737488355328 := by omega
  have n2_u129_0 : y127.length + y128.length ≤ 9223372036854775807 := by omega
  refine ee_seq_reg rfl (by simp [-chunk, -Cell.isSl, -callOp, callOp_eq, hT107, ehy128, n1_u129_0, n2_u129_0]; rfl) ?_
  refine ee_assoc ?_
  refine ee_seq_reg rfl (by simp [-chunk, -Cell.isSl, -callOp, callOp_eq, ]; rfl) ?_
  refine ee_seq_block ?_
  refine ee_loop (kq := ⟨[1, 2, 5, 25, 26, 27], [2, 16], []⟩) (H := fun (s : Int × (List Int)) => match s with | (p16, p17) => (⟨(und 1 ++ ([.one (.v (.bool a1)), .ptr 2 0 0 0 4] ++ (und 2 ++ ([.one (.ms 16 0 0 (p17.length) 1)] ++ (und 19 ++ ([.one (.slice .no (List.map eapi_Input a0.2.1)), .one (.v (.int .i64 (a0.2.1.length : Int))), .one (.v (.int .i64 p16))] ++ (und 76)))))) : List PV), ([(2, ⟨0, 4, [[.v (.int .u32 a0.1), .slice .no (List.map eapi_Input a0.2.1), .slice .no (List.map eapi_Output a0.2.2.1), .v (.int .u32 a0.2.2.2)]], false, false⟩), (16, ⟨0, 1, intsR .u8 p17, false, true⟩)] : Boxes)⟩ : ASt)) (by kernel_rfl) hr (by simp [und, List.replicate, ]) ?_
  rintro ⟨p16, p17⟩ x130r hr130
  simp only [Ltx_encode_s1] at hr130
  unfold b95_1
  simp only [und, List.replicate, List.cons_append, List.nil_append]
  refine ee_seq_reg rfl (by simp [-chunk, -Cell.isSl, -callOp, callOp_eq, ]; rfl) ?_
  by_cases c131 : p16 < (a0.2.1.length : Int)
  · skip
    have c131N := c131
    try simp at c131N
    rw [if_pos] at hr130
    rotate_left
    · simp [c131, c131N]
    refine ee_seq_condT (by simp [bV, c131, c131N]) ?_
    refine ee_seq_skip ?_
    refine ee_seq_block ?_
    obtain ⟨x132, hx132, hr130⟩ := Option.bind_eq_some_iff.1 hr130
    obtain ⟨hx132a, hx132b⟩ := idx_some hx132
    have hx132c := getE_of hx132b
    refine ee_seq_reg rfl (by simp [-chunk, -Cell.isSl, -callOp, callOp_eq, hx132a, hx132b, hx132c, c131, c131N]; rfl) ?_
    obtain ⟨y133, hy133, hr130⟩ := Option.bind_eq_some_iff.1 hr130
    have ehy133 := G_Ltx_Point_eq hy133
    try simp only [intsR_nil, intsR_cons, intsR_app, intsR_tk, intsR_dr, intsR_st, intsR_rep, List.map_nil, List.map_cons, List.map_append, List.map_take, List.map_drop, List.map_set, List.map_replicate, List.nil_append, List.cons_append, List.append_assoc, eS_I_u8, eapi_Input, eapi_Output] at ehy133
    obtain ⟨_, u134, hr130⟩ := Option.bind_eq_some_iff.1 hr130
    have u134_0 := chk_some u134
    have n1_u134_0 : p17.length + y133.length ≤ 140737488355328 := by omega
    have n2_u134_0 : p17.length + y133.length ≤ 9223372036854775807 := by omega
    refine ee_seq_reg rfl (by simp [-chunk, -Cell.isSl, -callOp, callOp_eq, hT108, ehy133, n1_u134_0, n2_u134_0, c131, c131N]; rfl) ?_
    obtain ⟨y135, hy135, hr130⟩ := Option.bind_eq_some_iff.1 hr130
    have ehy135 := G_Lcodec_AppendU32_eq hy135
    try simp only [intsR_nil, intsR_cons, intsR_app, intsR_tk, intsR_dr, intsR_st, intsR_rep, List.map_nil, List.map_cons, List.map_append, List.map_take, List.map_drop, List.map_set, List.map_replicate, List.nil_append, List.cons_append, List.append_assoc, eS_I_u8, eapi_Input, eapi_Output] at ehy135
    obtain ⟨_, u136, hr130⟩ := Option.bind_eq_some_iff.1 hr130
    have u136_0 := chk_some u136
    have n1_u136_0 : p17.length + y133.length + y135.length ≤ 140737488355328 := by omega
    have n2_u136_0 : p17.length + y133.length + y135.length ≤ 9223372036854775807 := by omega
    refine ee_reg rfl (by simp [-chunk, -Cell.isSl, -callOp, callOp_eq, hT106, ehy135, n1_u136_0, n2_u136_0, c131, c131N]; rfl) ?_
    simp only [outOf, thenQ, QL, if_true, ite_true, reduceCtorEq, if_false]
    refine ee_reg rfl (by simp [-chunk, -Cell.isSl, -callOp, callOp_eq, c131, c131N]; rfl) ?_
    obtain rfl := Option.some.inj hr130
    simp only [outOf, thenQ, QL, if_true, ite_true, reduceCtorEq, if_false]
    simp [und, List.replicate, Nat.add_assoc, c131, c131N]
  · skip
    have c131N := c131
    try simp at c131N
    rw [if_neg] at hr130
    rotate_left
    · simp [c131, c131N]
    refine ee_seq_condF (by simp [bV, c131, c131N]) ?_
    refine ee_seq_exit ?_
    obtain ⟨r137, q137, rfl⟩ := Option.map_eq_some_iff.1 hr130
    simp only [outOf, thenQ, QL, if_true, ite_true, reduceCtorEq, if_false]
    rintro rfl
    try simp only [outOf, thenQ, QL, if_true, ite_true, reduceCtorEq, if_false]
    unfold Ltx_encode_k1 at q137
    obtain ⟨y138, hy138, q137⟩ := Option.bind_eq_some_iff.1 q137
    have ehy138 := G_Lcodec_AppendSize_eq hy138
    try simp only [intsR_nil, intsR_cons, intsR_app, intsR_tk, intsR_dr, intsR_st, intsR_rep, List.map_nil, List.map_cons, List.map_append, List.map_take, List.map_drop, List.map_set, List.map_replicate, List.nil_append, List.cons_append, List.append_assoc, eS_I_u8, eapi_Input, eapi_Output] at ehy138
    obtain ⟨_, u139, q137⟩ := Option.bind_eq_some_iff.1 q137
    have u139_0 := chk_some u139
    have n1_u139_0 : p17.length + y138.length ≤ 140737488355328 := by omega
    have n2_u139_0 : p17.length + y138.length ≤ 9223372036854775807 := by omega
    refine ee_seq_reg rfl (by simp [-chunk, -Cell.isSl, -callOp, callOp_eq, hT107, ehy138, n1_u139_0, n2_u139_0, c131, c131N]; rfl) ?_
    refine ee_assoc ?_
    refine ee_seq_reg rfl (by simp [-chunk, -Cell.isSl, -callOp, callOp_eq, c131, c131N]; rfl) ?_
    refine ee_seq_block ?_
    refine ee_loop (kq := ⟨[1, 2, 5, 50, 51, 52], [2, 16], []⟩) (H := fun (s : Int × (List Int)) => match s with | (p37, p38) => (⟨(und 1 ++ ([.one (.v (.bool a1)), .ptr 2 0 0 0 4] ++ (und 2 ++ ([.one (.ms 16 0 0 (p38.length) 1)] ++ (und 44 ++ ([.one (.slice .no (List.map eapi_Output a0.2.2.1)), .one (.v (.int .i64 (a0.2.2.1.length : Int))), .one (.v (.int .i64 p37))] ++ (und 51)))))) : List PV), ([(2, ⟨0, 4, [[.v (.int .u32 a0.1), .slice .no (List.map eapi_Input a0.2.1), .slice .no (List.map eapi_Output a0.2.2.1), .v (.int .u32 a0.2.2.2)]], false, false⟩), (16, ⟨0, 1, intsR .u8 p38, false, true⟩)] : Boxes)⟩ : ASt)) (by kernel_rfl) q137 (by simp [und, List.replicate, c131, c131N]) ?_
    rintro ⟨p37, p38⟩ x140r hr140
    simp only [Ltx_encode_s2] at hr140
    unfold b95_2
    simp only [und, List.replicate, List.cons_append, List.nil_append]
    refine ee_seq_reg rfl (by simp [-chunk, -Cell.isSl, -callOp, callOp_eq, c131, c131N]; rfl) ?_
    by_cases c141 : p37 < (a0.2.2.1.length : Int)
    · skip
      have c141N := c141
      try simp at c141N
      rw [if_pos] at hr140
      rotate_left
      · simp [c131, c131N, c141, c141N]
      refine ee_seq_condT (by simp [bV, c131, c131N, c141, c141N]) ?_
      refine ee_seq_skip ?_
      refine ee_seq_block ?_
      obtain ⟨x142, hx142, hr140⟩ := Option.bind_eq_some_iff.1 hr140
      obtain ⟨hx142a, hx142b⟩ := idx_some hx142
      have hx142c := getE_of hx142b
      refine ee_seq_reg rfl (by simp [-chunk, -Cell.isSl, -callOp, callOp_eq, hx142a, hx142b, hx142c, c131, c131N, c141, c141N]; rfl) ?_
      obtain ⟨y143, hy143, hr140⟩ := Option.bind_eq_some_iff.1 hr140
      have ehy143 := G_Lcodec_AppendU64_eq hy143
      try simp only [intsR_nil, intsR_cons, intsR_app, intsR_tk, intsR_dr, intsR_st, intsR_rep, List.map_nil, List.map_cons, List.map_append, List.map_take, List.map_drop, List.map_set, List.map_replicate, List.nil_append, List.cons_append, List.append_assoc, eS_I_u8, eapi_Input, eapi_Output] at ehy143
      obtain ⟨_, u144, hr140⟩ := Option.bind_eq_some_iff.1 hr140
      have u144_0 := chk_some u144
      have n1_u144_0 : p38.length + y143.length ≤ 140737488355328 := by omega
      have n2_u144_0 : p38.length + y143.length ≤ 9223372036854775807 := by omega
      refine ee_seq_reg rfl (by simp [-chunk, -Cell.isSl, -callOp, callOp_eq, hT109, ehy143, n1_u144_0, n2_u144_0, c131, c131N, c141, c141N]; rfl) ?_
      obtain ⟨y145, hy145, hr140⟩ := Option.bind_eq_some_iff.1 hr140
      have ehy145 := G_Lcodec_AppendBytes_eq hy145
      try simp only [intsR_nil, intsR_cons, intsR_app, intsR_tk, intsR_dr, intsR_st, intsR_rep, List.map_nil, List.map_cons, List.map_append, List.map_take, List.map_drop, List.map_set, List.map_replicate, List.nil_append, List.cons_append, List.append_assoc, eS_I_u8, eapi_Input, eapi_Output] at ehy145
      obtain ⟨_, u146, hr140⟩ := Option.bind_eq_some_iff.1 hr140
      have u146_0 := chk_some u146
      have n1_u146_0 : p38.length + y143.length + y145.length ≤ 140737488355328 := by omega
      have n2_u146_0 : p38.length + y143.length + y145.length ≤ 9223372036854775807 := by omega
      refine ee_reg rfl (by simp [-chunk, -Cell.isSl, -callOp, callOp_eq, hT110, ehy145, n1_u146_0, n2_u146_0, c131, c131N, c141, c141N]; rfl) ?_
      simp only [outOf, thenQ, QL, if_true, ite_true, reduceCtorEq, if_false]
      refine ee_reg rfl (by simp [-chunk, -Cell.isSl, -callOp, callOp_eq, c131, c131N, c141, c141N]; rfl) ?_
      obtain rfl := Option.some.inj hr140
      simp only [outOf, thenQ, QL, if_true, ite_true, reduceCtorEq, if_false]
      simp [und, List.replicate, Nat.add_assoc, c131, c131N, c141, c141N]
    · skip
      have c141N := c141
      try simp at c141N
      rw [if_neg] at hr140
      rotate_left
      · simp [c131, c131N, c141, c141N]
      refine ee_seq_condF (by simp [bV, c131, c131N, c141, c141N]) ?_
      refine ee_seq_exit ?_
      obtain ⟨r147, q147, rfl⟩ := Option.map_eq_some_iff.1 hr140
      simp only [outOf, thenQ, QL, if_true, ite_true, reduceCtorEq, if_false]
      rintro rfl
      try simp only [outOf, thenQ, QL, if_true, ite_true, reduceCtorEq, if_false]
      unfold Ltx_encode_k2 at q147
      obtain ⟨y148, hy148, q147⟩ := Option.bind_eq_some_iff.1 q147
      have ehy148 := G_Lcodec_AppendU32_eq hy148
      try simp only [intsR_nil, intsR_cons, intsR_app, intsR_tk, intsR_dr, intsR_st, intsR_rep, List.map_nil, List.map_cons, List.map_append, List.map_take, List.map_drop, List.map_set, List.map_replicate, List.nil_append, List.cons_append, List.append_assoc, eS_I_u8, eapi_Input, eapi_Output] at ehy148
      obtain ⟨_, u149, q147⟩ := Option.bind_eq_some_iff.1 q147
      have u149_0 := chk_some u149
      have n1_u149_0 : p38.length + y148.length ≤ 140737488355328 := by omega
      have n2_u149_0 : p38.length + y148.length ≤ 9223372036854775807 := by omega
      refine ee_seq_reg rfl (by simp [-chunk, -Cell.isSl, -callOp, callOp_eq, hT106, ehy148, n1_u149_0, n2_u149_0, c131, c131N, c141, c141N]; rfl) ?_
      refine ee_assoc ?_
      refine ee_seq_reg rfl (by simp [-chunk, -Cell.isSl, -callOp, callOp_eq, c131, c131N, c141, c141N]; rfl) ?_
      by_cases c150 : a1 = true
      · skip
        rw [if_neg] at q147
        rotate_left
        · simp [c131, c131N, c141, c141N, c150]
        refine ee_seq_condF (by simp [bV, c131, c131N, c141, c141N, c150]) ?_
        refine ee_seq_skip ?_
        refine ee_assoc ?_
        refine ee_seq_reg rfl (by simp [-chunk, -Cell.isSl, -callOp, callOp_eq, c131, c131N, c141, c141N, c150]; rfl) ?_
        refine ee_seq_block ?_
        refine ee_loop (kq := ⟨[5, 77, 78, 79], [16], []⟩) (H := fun (s : Int × (List Int)) => match s with | (p80, p81) => (⟨(und 5 ++ ([.one (.ms 16 0 0 (p81.length) 1)] ++ (und 71 ++ ([.one (.slice .no (List.map eapi_Input a0.2.1)), .one (.v (.int .i64 (a0.2.1.length : Int))), .one (.v (.int .i64 p80))] ++ (und 24)))) : List PV), ([(16, ⟨0, 1, intsR .u8 p81, false, true⟩)] : Boxes)⟩ : ASt)) (by kernel_rfl) q147 (by simp [und, List.replicate, c131, c131N, c141, c141N, c150]) ?_
        rintro ⟨p80, p81⟩ x151r hr151
        simp only [Ltx_encode_s3] at hr151
        unfold b95_3
        simp only [und, List.replicate, List.cons_append, List.nil_append]
        refine ee_seq_reg rfl (by simp [-chunk, -Cell.isSl, -callOp, callOp_eq, c131, c131N, c141, c141N, c150]; rfl) ?_
        by_cases c152 : p80 < (a0.2.1.length : Int)
        · skip
          have c152N := c152
          try simp at c152N
          rw [if_pos] at hr151
          rotate_left
          · simp [c131, c131N, c141, c141N, c150, c152, c152N]
          refine ee_seq_condT (by simp [bV, c131, c131N, c141, c141N, c150, c152, c152N]) ?_
          refine ee_seq_skip ?_
          refine ee_seq_block ?_
          obtain ⟨x153, hx153, hr151⟩ := Option.bind_eq_some_iff.1 hr151
          obtain ⟨hx153a, hx153b⟩ := idx_some hx153
          have hx153c := getE_of hx153b
          refine ee_seq_reg rfl (by simp [-chunk, -Cell.isSl, -callOp, callOp_eq, hx153a, hx153b, hx153c, c131, c131N, c141, c141N, c150, c152, c152N]; rfl) ?_
          obtain ⟨y154, hy154, hr151⟩ := Option.bind_eq_some_iff.1 hr151
          have ehy154 := G_Lcodec_AppendSize_eq hy154
          try simp only [intsR_nil, intsR_cons, intsR_app, intsR_tk, intsR_dr, intsR_st, intsR_rep, List.map_nil, List.map_cons, List.map_append, List.map_take, List.map_drop, List.map_set, List.map_replicate, List.nil_append, List.cons_append, List.append_assoc, eS_I_u8, eapi_Input, eapi_Output] at ehy154
          obtain ⟨_, u155, hr151⟩ := Option.bind_eq_some_iff.1 hr151
          have u155_0 := chk_some u155
          have n1_u155_0 : p81.length + y154.length ≤ 140737488355328 := by omega
          have n2_u155_0 : p81.length + y154.length ≤ 9223372036854775807 := by omega
          refine ee_seq_reg rfl (by simp [-chunk, -Cell.isSl, -callOp, callOp_eq, hT107, ehy154, n1_u155_0, n2_u155_0, c131, c131N, c141, c141N, c150, c152, c152N]; rfl) ?_
          refine ee_seq_reg rfl (by simp [-chunk, -Cell.isSl, -callOp, callOp_eq, c131, c131N, c141, c141N, c150, c152, c152N]; rfl) ?_
          refine ee_block ?_
          refine ee_loop (kq := ⟨[5, 77, 78, 79, 91, 92, 93], [16], []⟩) (H := fun (s : Int × (List Int)) => match s with | (p109, p110) => (⟨(und 5 ++ ([.one (.ms 16 0 0 (p110.length) 1)] ++ (und 71 ++ ([.one (.slice .no (List.map eapi_Input a0.2.1)), .one (.v (.int .i64 (a0.2.1.length : Int))), .one (.v (.int .i64 p80))] ++ (und 11 ++ ([.one (.slice .no (List.map eS_I_u8 x153.2.2)), .one (.v (.int .i64 (x153.2.2.length : Int))), .one (.v (.int .i64 p109))] ++ (und 10)))))) : List PV), ([(16, ⟨0, 1, intsR .u8 p110, false, true⟩)] : Boxes)⟩ : ASt)) (by kernel_rfl) hr151 (by simp [und, List.replicate, c131, c131N, c141, c141N, c150, c152, c152N]) ?_
          rintro ⟨p109, p110⟩ x156r hr156
          simp only [Ltx_encode_s4] at hr156
          unfold b95_4
          simp only [und, List.replicate, List.cons_append, List.nil_append]
          refine ee_seq_reg rfl (by simp [-chunk, -Cell.isSl, -callOp, callOp_eq, c131, c131N, c141, c141N, c150, c152, c152N]; rfl) ?_
          by_cases c157 : p109 < (x153.2.2.length : Int)
          · skip
            have c157N := c157
            try simp at c157N
            rw [if_pos] at hr156
            rotate_left
            · simp [c131, c131N, c141, c141N, c150, c152, c152N, c157, c157N]
            refine ee_seq_condT (by simp [bV, c131, c131N, c141, c141N, c150, c152, c152N, c157, c157N]) ?_
            refine ee_seq_skip ?_
            refine ee_seq_block ?_
            obtain ⟨x158, hx158, hr156⟩ := Option.bind_eq_some_iff.1 hr156
            obtain ⟨hx158a, hx158b⟩ := idx_some hx158
            have hx158c := getE_of hx158b
            refine ee_seq_reg rfl (by simp [-chunk, -Cell.isSl, -callOp, callOp_eq, hx158a, hx158b, hx158c, c131, c131N, c141, c141N, c150, c152, c152N, c157, c157N]; rfl) ?_
            obtain ⟨y159, hy159, hr156⟩ := Option.bind_eq_some_iff.1 hr156
            have ehy159 := G_Lcodec_AppendBytes_eq hy159
            try simp only [intsR_nil, intsR_cons, intsR_app, intsR_tk, intsR_dr, intsR_st, intsR_rep, List.map_nil, List.map_cons, List.map_append, List.map_take, List.map_drop, List.map_set, List.map_replicate, List.nil_append, List.cons_append, List.append_assoc, eS_I_u8, eapi_Input, eapi_Output] at ehy159
            obtain ⟨_, u160, hr156⟩ := Option.bind_eq_some_iff.1 hr156
            have u160_0 := chk_some u160
            have n1_u160_0 : p110.length + y159.length ≤ 140737488355328 := by omega
            have n2_u160_0 : p110.length + y159.length ≤ 9223372036854775807 := by omega
            refine ee_reg rfl (by simp [-chunk, -Cell.isSl, -callOp, callOp_eq, hT110, ehy159, n1_u160_0, n2_u160_0, c131, c131N, c141, c141N, c150, c152, c152N, c157, c157N]; rfl) ?_
            simp only [outOf, thenQ, QL, if_true, ite_true, reduceCtorEq, if_false]
            refine ee_reg rfl (by simp [-chunk, -Cell.isSl, -callOp, callOp_eq, c131, c131N, c141, c141N, c150, c152, c152N, c157, c157N]; rfl) ?_
            obtain rfl := Option.some.inj hr156
            simp only [outOf, thenQ, QL, if_true, ite_true, reduceCtorEq, if_false]
            simp [und, List.replicate, Nat.add_assoc, c131, c131N, c141, c141N, c150, c152, c152N, c157, c157N]
          · skip
            have c157N := c157
            try simp at c157N
            rw [if_neg] at hr156
            rotate_left
            · simp [c131, c131N, c141, c141N, c150, c152, c152N, c157, c157N]
            refine ee_seq_condF (by simp [bV, c131, c131N, c141, c141N, c150, c152, c152N, c157, c157N]) ?_
            refine ee_seq_exit ?_
            obtain ⟨r161, q161, rfl⟩ := Option.map_eq_some_iff.1 hr156
            simp only [outOf, thenQ, QL, if_true, ite_true, reduceCtorEq, if_false]
            rintro rfl
            try simp only [outOf, thenQ, QL, if_true, ite_true, reduceCtorEq, if_false]
            unfold Ltx_encode_k4 at q161
            refine ee_reg rfl (by simp [-chunk, -Cell.isSl, -callOp, callOp_eq, c131, c131N, c141, c141N, c150, c152, c152N, c157, c157N]; rfl) ?_
            obtain rfl := Option.some.inj q161
            simp only [outOf, thenQ, QL, if_true, ite_true, reduceCtorEq, if_false]
            simp [und, List.replicate, Nat.add_assoc, c131, c131N, c141, c141N, c150, c152, c152N, c157, c157N]
        · skip
          have c152N := c152
          try simp at c152N
          rw [if_neg] at hr151
          rotate_left
          · simp [c131, c131N, c141, c141N, c150, c152, c152N]
          refine ee_seq_condF (by simp [bV, c131, c131N, c141, c141N, c150, c152, c152N]) ?_
          refine ee_seq_exit ?_
          obtain ⟨r162, q162, rfl⟩ := Option.map_eq_some_iff.1 hr151
          simp only [outOf, thenQ, QL, if_true, ite_true, reduceCtorEq, if_false]
          rintro rfl
          try simp only [outOf, thenQ, QL, if_true, ite_true, reduceCtorEq, if_false]
          unfold Ltx_encode_k3 at q162
          refine ee_seq_reg rfl (by simp [-chunk, -Cell.isSl, -callOp, callOp_eq, c131, c131N, c141, c141N, c150, c152, c152N]; rfl) ?_
          refine ee_ret ?_
          obtain rfl := Option.some.inj q162
          simp [FinQ, -chunk, -Cell.isSl, -callOp, callOp_eq, c131, c131N, c141, c141N, c150, c152, c152N]
      · skip
        rw [if_pos] at q147
        rotate_left
        · simp [c131, c131N, c141, c141N, c150]
        refine ee_seq_condT (by simp [bV, c131, c131N, c141, c141N, c150]) ?_
        refine ee_assoc ?_
        refine ee_seq_reg rfl (by simp [-chunk, -Cell.isSl, -callOp, callOp_eq, c131, c131N, c141, c141N, c150]; rfl) ?_
        refine ee_seq_ret ?_
        obtain rfl := Option.some.inj q147
        simp [FinQ, -chunk, -Cell.isSl, -callOp, callOp_eq, c131, c131N, c141, c141N, c150]
def kp75 : Keep := fun i => if i = 4 then ⟨[1, 20, 21, 22], [1], []⟩ else if i = 10 then ⟨[1, 37, 38, 39], [1], []⟩ else if i = 15 then ⟨[1, 37, 38, 39, 48, 49, 50], [1], []⟩ else ⟨[], [], []⟩
theorem w75 {T : Tab} (hT95 : T 95 = some G_Ltx_encode) (a0 : Tapi_Tx) (x : Bool) (hr : Ltx_fits a0 = some x) : ∃ kp fl n, execFn tt T G kp fl n Tryd.f75 [.agg ([.v (.int .u32 a0.1), .slice .no (List.map eapi_Input a0.2.1), .slice .no (List.map eapi_Output a0.2.2.1), .v (.int .u32 a0.2.2.2)])] = some (.one (.v (.bool x)), []) := by
  refine fnE (kp := kp75) (w := false) body75 ?_
  unfold c75
  rw [Tryd.ntmps75]
  unfold Ltx_fits at hr
  refine ee_seq_reg rfl (by simp [-chunk, -Cell.isSl, -callOp, callOp_eq, ]; rfl) ?_
  refine ee_assoc ?_
  by_cases c35 : 64 < (a0.2.1.length : Int)
  · skip
    have c35N := c35
    try simp at c35N
    refine ee_seq_reg rfl (by simp [-chunk, -Cell.isSl, -callOp, callOp_eq, c35, c35N]; rfl) ?_
    rw [if_pos] at hr
    rotate_left
    · simp [c35, c35N]
    refine ee_seq_condT (by simp [bV, c35, c35N]) ?_
    refine ee_assoc ?_
    refine ee_seq_reg rfl (by simp [-chunk, -Cell.isSl, -callOp, callOp_eq, c35, c35N]; rfl) ?_
    refine ee_seq_ret ?_
    obtain rfl := Option.some.inj hr
    simp [FinQ, -chunk, -Cell.isSl, -callOp, callOp_eq, c35, c35N]
  · skip
    have c35N := c35
    try simp at c35N
    refine ee_seq_reg rfl (by simp [-chunk, -Cell.isSl, -callOp, callOp_eq, c35, c35N]; rfl) ?_
    by_cases c36 : 64 < (a0.2.2.1.length : Int)
    · skip
      have c36N := c36
      try simp at c36N
      rw [if_pos] at hr
      rotate_left
      · simp [c35, c35N, c36, c36N]
      refine ee_seq_condT (by simp [bV, c35, c35N, c36, c36N]) ?_
      refine ee_assoc ?_
      refine ee_seq_reg rfl (by simp [-chunk, -Cell.isSl, -callOp, callOp_eq, c35, c35N, c36, c36N]; rfl) ?_
      refine ee_seq_ret ?_
      obtain rfl := Option.some.inj hr
      simp [FinQ, -chunk, -Cell.isSl, -callOp, callOp_eq, c35, c35N, c36, c36N]
    · skip
      have c36N := c36
      try simp at c36N
      rw [if_neg] at hr
      rotate_left
      · simp [c35, c35N, c36, c36N]
      refine ee_seq_condF (by simp [bV, c35, c35N, c36, c36N]) ?_
      refine ee_seq_skip ?_
      refine ee_assoc ?_
      refine ee_seq_reg rfl (by simp [-chunk, -Cell.isSl, -callOp, callOp_eq, c35, c35N, c36, c36N]; rfl) ?_
      refine ee_seq_block ?_
      refine ee_loop (kq := ⟨[1, 20, 21, 22], [1], []⟩) (H := fun (s : Int) => match s with | p4 => (⟨(und 1 ++ ([.ptr 1 0 0 0 4] ++ (und 18 ++ ([.one (.slice .no (List.map eapi_Output a0.2.2.1)), .one (.v (.int .i64 (a0.2.2.1.length : Int))), .one (.v (.int .i64 p4))] ++ (und 40)))) : List PV), ([(1, ⟨0, 4, [[.v (.int .u32 a0.1), .slice .no (List.map eapi_Input a0.2.1), .slice .no (List.map eapi_Output a0.2.2.1), .v (.int .u32 a0.2.2.2)]], false, false⟩)] : Boxes)⟩ : ASt)) (by kernel_rfl) hr (by simp [und, List.replicate, c35, c35N, c36, c36N]) ?_
      rintro p4 x37r hr37
      simp only [Ltx_fits_s1] at hr37
      unfold b75_1
      simp only [und, List.replicate, List.cons_append, List.nil_append]
      refine ee_seq_reg rfl (by simp [-chunk, -Cell.isSl, -callOp, callOp_eq, c35, c35N, c36, c36N]; rfl) ?_
      by_cases c38 : p4 < (a0.2.2.1.length : Int)
      · skip
        have c38N := c38
        try simp at c38N
        rw [if_pos] at hr37
        rotate_left
        · simp [c35, c35N, c36, c36N, c38, c38N]
        refine ee_seq_condT (by simp [bV, c35, c35N, c36, c36N, c38, c38N]) ?_
        refine ee_seq_skip ?_
        refine ee_seq_block ?_
        obtain ⟨x39, hx39, hr37⟩ := Option.bind_eq_some_iff.1 hr37
        obtain ⟨hx39a, hx39b⟩ := idx_some hx39
        have hx39c := getE_of hx39b
        refine ee_seq_reg rfl (by simp [-chunk, -Cell.isSl, -callOp, callOp_eq, hx39a, hx39b, hx39c, c35, c35N, c36, c36N, c38, c38N]; rfl) ?_
        by_cases c40 : x39.1 < 0
        · skip
          refine ee_seq_reg rfl (by simp [-chunk, -Cell.isSl, -callOp, callOp_eq, c35, c35N, c36, c36N, c38, c38N, c40]; rfl) ?_
          rw [if_pos] at hr37
          rotate_left
          · simp [c35, c35N, c36, c36N, c38, c38N, c40]
          refine ee_condT (by simp [bV, c35, c35N, c36, c36N, c38, c38N, c40]) ?_
          refine ee_seq_reg rfl (by simp [-chunk, -Cell.isSl, -callOp, callOp_eq, c35, c35N, c36, c36N, c38, c38N, c40]; rfl) ?_
          refine ee_ret ?_
          obtain rfl := Option.some.inj hr37
          simp only [outOf, thenQ, QL, if_true, ite_true, reduceCtorEq, if_false]
          rintro rfl
          simp [FinQ, -chunk, -Cell.isSl, -callOp, callOp_eq, c35, c35N, c36, c36N, c38, c38N, c40]
        · skip
          refine ee_seq_reg rfl (by simp [-chunk, -Cell.isSl, -callOp, callOp_eq, c35, c35N, c36, c36N, c38, c38N, c40]; rfl) ?_
          by_cases c41 : 520 < (x39.2.length : Int)
          · skip
            have c41N := c41
            try simp at c41N
            rw [if_pos] at hr37
            rotate_left
            · simp [c35, c35N, c36, c36N, c38, c38N, c40, c41, c41N]
            refine ee_condT (by simp [bV, c35, c35N, c36, c36N, c38, c38N, c40, c41, c41N]) ?_
            refine ee_seq_reg rfl (by simp [-chunk, -Cell.isSl, -callOp, callOp_eq, c35, c35N, c36, c36N, c38, c38N, c40, c41, c41N]; rfl) ?_
            refine ee_ret ?_
            obtain rfl := Option.some.inj hr37
            simp only [outOf, thenQ, QL, if_true, ite_true, reduceCtorEq, if_false]
            rintro rfl
            simp [FinQ, -chunk, -Cell.isSl, -callOp, callOp_eq, c35, c35N, c36, c36N, c38, c38N, c40, c41, c41N]
          · skip
            have c41N := c41
            try simp at c41N
            rw [if_neg] at hr37
            rotate_left
            · simp [c35, c35N, c36, c36N, c38, c38N, c40, c41, c41N]
            refine ee_condF (by simp [bV, c35, c35N, c36, c36N, c38, c38N, c40, c41, c41N]) ?_
            refine ee_skip ?_
            simp only [outOf, thenQ, QL, if_true, ite_true, reduceCtorEq, if_false]
            refine ee_reg rfl (by simp [-chunk, -Cell.isSl, -callOp, callOp_eq, c35, c35N, c36, c36N, c38, c38N, c40, c41, c41N]; rfl) ?_
            obtain rfl := Option.some.inj hr37
            simp only [outOf, thenQ, QL, if_true, ite_true, reduceCtorEq, if_false]
            simp [und, List.replicate, Nat.add_assoc, c35, c35N, c36, c36N, c38, c38N, c40, c41, c41N]
      · skip
        have c38N := c38
        try simp at c38N
        rw [if_neg] at hr37
        rotate_left
        · simp [c35, c35N, c36, c36N, c38, c38N]
        refine ee_seq_condF (by simp [bV, c35, c35N, c36, c36N, c38, c38N]) ?_
        refine ee_seq_exit ?_
        obtain ⟨r42, q42, rfl⟩ := Option.map_eq_some_iff.1 hr37
        simp only [outOf, thenQ, QL, if_true, ite_true, reduceCtorEq, if_false]
        rintro rfl
        try simp only [outOf, thenQ, QL, if_true, ite_true, reduceCtorEq, if_false]
        unfold Ltx_fits_k1 at q42
        refine ee_assoc ?_
        refine ee_seq_reg rfl (by simp [-chunk, -Cell.isSl, -callOp, callOp_eq, c35, c35N, c36, c36N, c38, c38N]; rfl) ?_
        refine ee_seq_block ?_
        refine ee_loop (kq := ⟨[1, 37, 38, 39], [1], []⟩) (H := fun (s : Int) => match s with | p19 => (⟨(und 1 ++ ([.ptr 1 0 0 0 4] ++ (und 35 ++ ([.one (.slice .no (List.map eapi_Input a0.2.1)), .one (.v (.int .i64 (a0.2.1.length : Int))), .one (.v (.int .i64 p19))] ++ (und 23)))) : List PV), ([(1, ⟨0, 4, [[.v (.int .u32 a0.1), .slice .no (List.map eapi_Input a0.2.1), .slice .no (List.map eapi_Output a0.2.2.1), .v (.int .u32 a0.2.2.2)]], false, false⟩)] : Boxes)⟩ : ASt)) (by kernel_rfl) q42 (by simp [und, List.replicate, c35, c35N, c36, c36N, c38, c38N]) ?_
        rintro p19 x43r hr43
        simp only [Ltx_fits_s2] at hr43
        unfold b75_2
        simp only [und, List.replicate, List.cons_append, List.nil_append]
        refine ee_seq_reg rfl (by simp [-chunk, -Cell.isSl, -callOp, callOp_eq, c35, c35N, c36, c36N, c38, c38N]; rfl) ?_
        by_cases c44 : p19 < (a0.2.1.length : Int)
        · skip
          have c44N := c44
          try simp at c44N
          rw [if_pos] at hr43
          rotate_left
          · simp [c35, c35N, c36, c36N, c38, c38N, c44, c44N]
          refine ee_seq_condT (by simp [bV, c35, c35N, c36, c36N, c38, c38N, c44, c44N]) ?_
          refine ee_seq_skip ?_
          refine ee_seq_block ?_
          obtain ⟨x45, hx45, hr43⟩ := Option.bind_eq_some_iff.1 hr43
          obtain ⟨hx45a, hx45b⟩ := idx_some hx45
          have hx45c := getE_of hx45b
          refine ee_seq_reg rfl (by simp [-chunk, -Cell.isSl, -callOp, callOp_eq, hx45a, hx45b, hx45c, c35, c35N, c36, c36N, c38, c38N, c44, c44N]; rfl) ?_
          refine ee_assoc ?_
          refine ee_seq_reg rfl (by simp [-chunk, -Cell.isSl, -callOp, callOp_eq, c35, c35N, c36, c36N, c38, c38N, c44, c44N]; rfl) ?_
          by_cases c46 : 32 < (x45.2.2.length : Int)
          · skip
            have c46N := c46
            try simp at c46N
            rw [if_pos] at hr43
            rotate_left
            · simp [c35, c35N, c36, c36N, c38, c38N, c44, c44N, c46, c46N]
            refine ee_seq_condT (by simp [bV, c35, c35N, c36, c36N, c38, c38N, c44, c44N, c46, c46N]) ?_
            refine ee_assoc ?_
            refine ee_seq_reg rfl (by simp [-chunk, -Cell.isSl, -callOp, callOp_eq, c35, c35N, c36, c36N, c38, c38N, c44, c44N, c46, c46N]; rfl) ?_
            refine ee_seq_ret ?_
            obtain rfl := Option.some.inj hr43
            simp only [outOf, thenQ, QL, if_true, ite_true, reduceCtorEq, if_false]
            rintro rfl
            simp [FinQ, -chunk, -Cell.isSl, -callOp, callOp_eq, c35, c35N, c36, c36N, c38, c38N, c44, c44N, c46, c46N]
          · skip
            have c46N := c46
            try simp at c46N
            rw [if_neg] at hr43
            rotate_left
            · simp [c35, c35N, c36, c36N, c38, c38N, c44, c44N, c46, c46N]
            refine ee_seq_condF (by simp [bV, c35, c35N, c36, c36N, c38, c38N, c44, c44N, c46, c46N]) ?_
            refine ee_seq_skip ?_
            refine ee_seq_reg rfl (by simp [-chunk, -Cell.isSl, -callOp, callOp_eq, c35, c35N, c36, c36N, c38, c38N, c44, c44N, c46, c46N]; rfl) ?_
            refine ee_block ?_
            refine ee_loop (kq := ⟨[1, 37, 38, 39, 48, 49, 50], [1], []⟩) (H := fun (s : Int) => match s with | p31 => (⟨(und 1 ++ ([.ptr 1 0 0 0 4] ++ (und 35 ++ ([.one (.slice .no (List.map eapi_Input a0.2.1)), .one (.v (.int .i64 (a0.2.1.length : Int))), .one (.v (.int .i64 p19))] ++ (und 8 ++ ([.one (.slice .no (List.map eS_I_u8 x45.2.2)), .one (.v (.int .i64 (x45.2.2.length : Int))), .one (.v (.int .i64 p31))] ++ (und 12)))))) : List PV), ([(1, ⟨0, 4, [[.v (.int .u32 a0.1), .slice .no (List.map eapi_Input a0.2.1), .slice .no (List.map eapi_Output a0.2.2.1), .v (.int .u32 a0.2.2.2)]], false, false⟩)] : Boxes)⟩ : ASt)) (by kernel_rfl) hr43 (by simp [und, List.replicate, c35, c35N, c36, c36N, c38, c38N, c44, c44N, c46, c46N]) ?_
            rintro p31 x47r hr47
            simp only [Ltx_fits_s3] at hr47
            unfold b75_3
            simp only [und, List.replicate, List.cons_append, List.nil_append]
            refine ee_seq_reg rfl (by simp [-chunk, -Cell.isSl, -callOp, callOp_eq, c35, c35N, c36, c36N, c38, c38N, c44, c44N, c46, c46N]; rfl) ?_
            by_cases c48 : p31 < (x45.2.2.length : Int)
            · skip
              have c48N := c48
              try simp at c48N
              rw [if_pos] at hr47
              rotate_left
              · simp [c35, c35N, c36, c36N, c38, c38N, c44, c44N, c46, c46N, c48, c48N]
              refine ee_seq_condT (by simp [bV, c35, c35N, c36, c36N, c38, c38N, c44, c44N, c46, c46N, c48, c48N]) ?_
              refine ee_seq_skip ?_
              refine ee_seq_block ?_
              obtain ⟨x49, hx49, hr47⟩ := Option.bind_eq_some_iff.1 hr47
              obtain ⟨hx49a, hx49b⟩ := idx_some hx49
              have hx49c := getE_of hx49b
              refine ee_seq_reg rfl (by simp [-chunk, -Cell.isSl, -callOp, callOp_eq, hx49a, hx49b, hx49c, c35, c35N, c36, c36N, c38, c38N, c44, c44N, c46, c46N, c48, c48N]; rfl) ?_
              refine ee_seq_reg rfl (by simp [-chunk, -Cell.isSl, -callOp, callOp_eq, c35, c35N, c36, c36N, c38, c38N, c44, c44N, c46, c46N, c48, c48N]; rfl) ?_
              by_cases c50 : 520 < (x49.length : Int)
              · skip
                have c50N := c50
                try simp at c50N
                rw [if_pos] at hr47
                rotate_left
                · simp [c35, c35N, c36, c36N, c38, c38N, c44, c44N, c46, c46N, c48, c48N, c50, c50N]
                refine ee_condT (by simp [bV, c35, c35N, c36, c36N, c38, c38N, c44, c44N, c46, c46N, c48, c48N, c50, c50N]) ?_
                refine ee_seq_reg rfl (by simp [-chunk, -Cell.isSl, -callOp, callOp_eq, c35, c35N, c36, c36N, c38, c38N, c44, c44N, c46, c46N, c48, c48N, c50, c50N]; rfl) ?_
                refine ee_ret ?_
                obtain rfl := Option.some.inj hr47
                simp only [outOf, thenQ, QL, if_true, ite_true, reduceCtorEq, if_false]
                rintro rfl
                simp only [outOf, thenQ, QL, if_true, ite_true, reduceCtorEq, if_false]
                rintro rfl
                simp [FinQ, -chunk, -Cell.isSl, -callOp, callOp_eq, c35, c35N, c36, c36N, c38, c38N, c44, c44N, c46, c46N, c48, c48N, c50, c50N]
              · skip
                have c50N := c50
                try simp at c50N
                rw [if_neg] at hr47
                rotate_left
                · simp [c35, c35N, c36, c36N, c38, c38N, c44, c44N, c46, c46N, c48, c48N, c50, c50N]
                refine ee_condF (by simp [bV, c35, c35N, c36, c36N, c38, c38N, c44, c44N, c46, c46N, c48, c48N, c50, c50N]) ?_
                refine ee_skip ?_
                simp only [outOf, thenQ, QL, if_true, ite_true, reduceCtorEq, if_false]
                refine ee_reg rfl (by simp [-chunk, -Cell.isSl, -callOp, callOp_eq, c35, c35N, c36, c36N, c38, c38N, c44, c44N, c46, c46N, c48, c48N, c50, c50N]; rfl) ?_
                obtain rfl := Option.some.inj hr47
                simp only [outOf, thenQ, QL, if_true, ite_true, reduceCtorEq, if_false]
                simp [und, List.replicate, Nat.add_assoc, c35, c35N, c36, c36N, c38, c38N, c44, c44N, c46, c46N, c48, c48N, c50, c50N]
            · skip
              have c48N := c48
              try simp at c48N
              rw [if_neg] at hr47
              rotate_left
              · simp [c35, c35N, c36, c36N, c38, c38N, c44, c44N, c46, c46N, c48, c48N]
              refine ee_seq_condF (by simp [bV, c35, c35N, c36, c36N, c38, c38N, c44, c44N, c46, c46N, c48, c48N]) ?_
              refine ee_seq_exit ?_
              obtain ⟨r51, q51, rfl⟩ := Option.map_eq_some_iff.1 hr47
              simp only [outOf, thenQ, QL, if_true, ite_true, reduceCtorEq, if_false]
              rintro rfl
              try simp only [outOf, thenQ, QL, if_true, ite_true, reduceCtorEq, if_false]
              unfold Ltx_fits_k3 at q51
              refine ee_reg rfl (by simp [-chunk, -Cell.isSl, -callOp, callOp_eq, c35, c35N, c36, c36N, c38, c38N, c44, c44N, c46, c46N, c48, c48N]; rfl) ?_
              obtain rfl := Option.some.inj q51
              simp only [outOf, thenQ, QL, if_true, ite_true, reduceCtorEq, if_false]
              simp [und, List.replicate, Nat.add_assoc, c35, c35N, c36, c36N, c38, c38N, c44, c44N, c46, c46N, c48, c48N]
        · skip
          have c44N := c44
          try simp at c44N
          rw [if_neg] at hr43
          rotate_left
          · simp [c35, c35N, c36, c36N, c38, c38N, c44, c44N]
          refine ee_seq_condF (by simp [bV, c35, c35N, c36, c36N, c38, c38N, c44, c44N]) ?_
          refine ee_seq_exit ?_
          obtain ⟨r52, q52, rfl⟩ := Option.map_eq_some_iff.1 hr43
          simp only [outOf, thenQ, QL, if_true, ite_true, reduceCtorEq, if_false]
          rintro rfl
          try simp only [outOf, thenQ, QL, if_true, ite_true, reduceCtorEq, if_false]
          unfold Ltx_fits_k2 at q52
          obtain ⟨y53, hy53, q52⟩ := Option.bind_eq_some_iff.1 q52
          have ehy53 := G_Ltx_encode_eq hy53
          try simp only [intsR_nil, intsR_cons, intsR_app, intsR_tk, intsR_dr, intsR_st, intsR_rep, List.map_nil, List.map_cons, List.map_append, List.map_take, List.map_drop, List.map_set, List.map_replicate, List.nil_append, List.cons_append, List.append_assoc, eS_I_u8, eapi_Input, eapi_Output] at ehy53
          refine ee_seq_reg rfl (by simp [-chunk, -Cell.isSl, -callOp, callOp_eq, hT95, ehy53, c35, c35N, c36, c36N, c38, c38N, c44, c44N]; rfl) ?_
          refine ee_ret ?_
          obtain rfl := Option.some.inj q52
          simp [FinQ, -chunk, -Cell.isSl, -callOp, callOp_eq, hT95, ehy53, c35, c35N, c36, c36N, c38, c38N, c44, c44N]
def kp76 : Keep := fun i => if i = 3 then ⟨[3, 6, 7, 8], [], []⟩ else ⟨[], [], []⟩
theorem w76 {T : Tab} (a0 : (List Tapi_Output)) (x : Bool) (hr : Ltx_money a0 = some x) : ∃ kp fl n, execFn tt T G kp fl n Tryd.f76 [.one (.slice .no (List.map eapi_Output a0))] = some (.one (.v (.bool x)), []) := by
  refine fnE (kp := kp76) (w := false) body76 ?_
  unfold c76
  rw [Tryd.ntmps76]
  unfold Ltx_money at hr
  refine ee_seq_reg rfl (by simp [-chunk, -Cell.isSl, -callOp, callOp_eq, ]; rfl) ?_
  refine ee_seq_reg rfl (by simp [-chunk, -Cell.isSl, -callOp, callOp_eq, ]; rfl) ?_
  refine ee_assoc ?_
  refine ee_seq_reg rfl (by simp [-chunk, -Cell.isSl, -callOp, callOp_eq, ]; rfl) ?_
  refine ee_seq_block ?_
  refine ee_loop (kq := ⟨[3, 6, 7, 8], [], []⟩) (H := fun (s : Int × Int) => match s with | (p5, p6) => (⟨(und 3 ++ ([.one (.v (.int .i64 p5))] ++ (und 2 ++ ([.one (.slice .no (List.map eapi_Output a0)), .one (.v (.int .i64 (a0.length : Int))), .one (.v (.int .i64 p6))] ++ (und 13)))) : List PV), ([] : Boxes)⟩ : ASt)) (by kernel_rfl) hr (by simp [und, List.replicate, ]) ?_
  rintro ⟨p5, p6⟩ x9r hr9
  simp only [Ltx_money_s1] at hr9
  unfold b76_1
  simp only [und, List.replicate, List.cons_append, List.nil_append]
  refine ee_seq_reg rfl (by simp [-chunk, -Cell.isSl, -callOp, callOp_eq, ]; rfl) ?_
  by_cases c10 : p6 < (a0.length : Int)
  · skip
    have c10N := c10
    try simp at c10N
    rw [if_pos] at hr9
    rotate_left
    · simp [c10, c10N]
    refine ee_seq_condT (by simp [bV, c10, c10N]) ?_
    refine ee_seq_skip ?_
    refine ee_seq_block ?_
    obtain ⟨x11, hx11, hr9⟩ := Option.bind_eq_some_iff.1 hr9
    obtain ⟨hx11a, hx11b⟩ := idx_some hx11
    have hx11c := getE_of hx11b
    refine ee_seq_reg rfl (by simp [-chunk, -Cell.isSl, -callOp, callOp_eq, hx11a, hx11b, hx11c, c10, c10N]; rfl) ?_
    refine ee_assoc ?_
    refine ee_seq_reg rfl (by simp [-chunk, -Cell.isSl, -callOp, callOp_eq, c10, c10N]; rfl) ?_
    by_cases c12 : IntKind.i64.wrap (2100000000000000 - p5) < x11.1
    · skip
      rw [if_pos] at hr9
      rotate_left
      · simp [c10, c10N, c12]
      refine ee_seq_condT (by simp [bV, c10, c10N, c12]) ?_
      refine ee_assoc ?_
      refine ee_seq_reg rfl (by simp [-chunk, -Cell.isSl, -callOp, callOp_eq, c10, c10N, c12]; rfl) ?_
      refine ee_seq_ret ?_
      obtain rfl := Option.some.inj hr9
      simp only [outOf, thenQ, QL, if_true, ite_true, reduceCtorEq, if_false]
      rintro rfl
      simp [FinQ, -chunk, -Cell.isSl, -callOp, callOp_eq, c10, c10N, c12]
    · skip
      rw [if_neg] at hr9
      rotate_left
      · simp [c10, c10N, c12]
      refine ee_seq_condF (by simp [bV, c10, c10N, c12]) ?_
      refine ee_seq_skip ?_
      refine ee_reg rfl (by simp [-chunk, -Cell.isSl, -callOp, callOp_eq, c10, c10N, c12]; rfl) ?_
      simp only [outOf, thenQ, QL, if_true, ite_true, reduceCtorEq, if_false]
      refine ee_reg rfl (by simp [-chunk, -Cell.isSl, -callOp, callOp_eq, c10, c10N, c12]; rfl) ?_
      obtain rfl := Option.some.inj hr9
      simp only [outOf, thenQ, QL, if_true, ite_true, reduceCtorEq, if_false]
      simp [und, List.replicate, Nat.add_assoc, c10, c10N, c12]
  · skip
    have c10N := c10
    try simp at c10N
    rw [if_neg] at hr9
    rotate_left
    · simp [c10, c10N]
    refine ee_seq_condF (by simp [bV, c10, c10N]) ?_
    refine ee_seq_exit ?_
    obtain ⟨r13, q13, rfl⟩ := Option.map_eq_some_iff.1 hr9
    simp only [outOf, thenQ, QL, if_true, ite_true, reduceCtorEq, if_false]
    rintro rfl
    try simp only [outOf, thenQ, QL, if_true, ite_true, reduceCtorEq, if_false]
    unfold Ltx_money_k1 at q13
    refine ee_seq_reg rfl (by simp [-chunk, -Cell.isSl, -callOp, callOp_eq, c10, c10N]; rfl) ?_
    refine ee_ret ?_
    obtain rfl := Option.some.inj q13
    simp [FinQ, -chunk, -Cell.isSl, -callOp, callOp_eq, c10, c10N]
end Go.Proofs.YtconfbgcjkjnkaaDoor
