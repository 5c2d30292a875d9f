import Derived.Test.YtanhccemhpmnhaaLfK
import Derived.Test.YtanhccemhpmnhaaCode
namespace Go.Proofs.Ytanhccemhpmnhaa
open Go.RowKit
open Go.Av
open Go.Lc
set_option maxRecDepth 100000
set_option linter.unusedSimpArgs false
set_option linter.unusedVariables false
variable {G : Glob}
def kp49 : Keep := fun i => if i = 4 then ⟨[1, 2, 5, 24, 25, 26], [2, 900005], [(5, none, 900005, 0), (5, none, 900005, 1)]⟩ else if i = 10 then ⟨[1, 2, 5, 46, 47, 48], [2, 44], []⟩ else if i = 16 then ⟨[1, 5, 62, 63, 64], [900005], [(5, none, 900005, 0), (5, none, 900005, 1)]⟩ else if i = 21 then ⟨[1, 5, 62, 63, 64, 77, 78, 79], [900005], [(5, none, 900005, 0), (5, none, 900005, 1)]⟩ else ⟨[], [], []⟩
theorem w49 {T : Tab} (hT62 : T 62 = some G_Lref01_AppendU32) (hT63 : T 63 = some G_Lref01_AppendSize) (hT64 : T 64 = some G_Lref09_Point) (hT65 : T 65 = some G_Lref09_Out) (hT66 : T 66 = some G_Lref01_AppendBytes) (a0 : Tapi_Tx) (a1 : Bool) (x : (List Int)) (hr : Lref09_encode a0 a1 = some x) : ∃ kp fl n, execFn tt T G kp fl n Try.f49 [.agg ([.v (.int .u32 a0.1), .slice .no (List.map eapi_Input a0.2.1), .slice .no (List.map eapi_Output a0.2.2.1), .v (.int .u32 a0.2.2.2)]), .one (.v (.bool a1))] = some (.one (.own 1 (intsR .u8 x)), []) := by
  refine fnE (kp := kp49) (w := true) body49 ?_
  unfold c49
  rw [Try.ntmps49]
  unfold Lref09_encode at hr
  refine ee_seq_reg rfl (by simp [-chunk, -Cell.isSl, -callOp, callOp_eq, ]; rfl) ?_
  obtain ⟨y95, hy95, hr⟩ := Option.bind_eq_some_iff.1 hr
  have ehy95 := G_Lref01_AppendU32_eq hy95
  try simp only [intsR_nil, intsR_cons, intsR_app, intsR_tk, intsR_dr, intsR_st, intsR_rep, List.map_nil, List.map_cons, List.map_append, List.map_take, List.map_drop, List.map_set, List.map_replicate, List.nil_append, List.cons_append, List.append_assoc, eapi_Input, eapi_Output, eapi_Spendable, eS_I_u8] at ehy95
  refine ee_seq_reg rfl (by simp [-chunk, -Cell.isSl, -callOp, callOp_eq, hT62, ehy95]; rfl) ?_
  obtain ⟨y96, hy96, hr⟩ := Option.bind_eq_some_iff.1 hr
  have ehy96 := G_Lref01_AppendSize_eq hy96
  try simp only [intsR_nil, intsR_cons, intsR_app, intsR_tk, intsR_dr, intsR_st, intsR_rep, List.map_nil, List.map_cons, List.map_append, List.map_take, List.map_drop, List.map_set, List.map_replicate, List.nil_append, List.cons_append, List.append_assoc, eapi_Input, eapi_Output, eapi_Spendable, eS_I_u8] at ehy96
  refine ee_seq_reg rfl (by simp [-chunk, -Cell.isSl, -callOp, callOp_eq, hT63, ehy96]; rfl) ?_
  refine ee_assoc ?_
  refine ee_seq_reg rfl (by simp [-chunk, -Cell.isSl, -callOp, callOp_eq, ]; rfl) ?_
  refine ee_seq_block ?_
  refine ee_loop (kq := ⟨[1, 2, 5, 24, 25, 26], [2, 900005], [(5, none, 900005, 0), (5, none, 900005, 1)]⟩) (H := fun (s : Int × (List Int)) => match s with | (p13, p14) => (⟨(und 1 ++ ([.one (.v (.bool a1)), .ptr 2 0 0 0 4] ++ (und 2 ++ ([.one (.ms 900005 0 0 (p14.length) 1)] ++ (und 18 ++ ([.one (.slice .no (List.map eapi_Input a0.2.1)), .one (.v (.int .i64 (a0.2.1.length : Int))), .one (.v (.int .i64 p13))] ++ (und 62)))))) : List PV), ([(2, ⟨0, 4, [[.v (.int .u32 a0.1), .slice .no (List.map eapi_Input a0.2.1), .slice .no (List.map eapi_Output a0.2.2.1), .v (.int .u32 a0.2.2.2)]], false, false⟩), (900005, ⟨0, 1, intsR .u8 p14, false, true⟩)] : Boxes)⟩ : ASt)) (by kernel_rfl) hr (by simp [und, List.replicate, ]) ?_
  rintro ⟨p13, p14⟩ x97r hr97
  simp only [Lref09_encode_s1] at hr97
  unfold b49_1
  simp only [und, List.replicate, List.cons_append, List.nil_append]
  refine ee_seq_reg rfl (by simp [-chunk, -Cell.isSl, -callOp, callOp_eq, ]; rfl) ?_
  by_cases c98 : p13 < (a0.2.1.length : Int)
  · skip
    have c98N := c98
    try simp at c98N
    rw [if_pos] at hr97
    rotate_left
    · simp [c98, c98N]
    refine ee_seq_condT (by simp [bV, c98, c98N]) ?_
    refine ee_seq_skip ?_
    refine ee_seq_block ?_
    obtain ⟨x99, hx99, hr97⟩ := Option.bind_eq_some_iff.1 hr97
    obtain ⟨hx99a, hx99b⟩ := idx_some hx99
    have hx99c := getE_of hx99b
    refine ee_seq_reg rfl (by simp [-chunk, -Cell.isSl, -callOp, callOp_eq, hx99a, hx99b, hx99c, c98, c98N]; rfl) ?_
    obtain ⟨y100, hy100, hr97⟩ := Option.bind_eq_some_iff.1 hr97
    have ehy100 := G_Lref09_Point_eq hy100
    try simp only [intsR_nil, intsR_cons, intsR_app, intsR_tk, intsR_dr, intsR_st, intsR_rep, List.map_nil, List.map_cons, List.map_append, List.map_take, List.map_drop, List.map_set, List.map_replicate, List.nil_append, List.cons_append, List.append_assoc, eapi_Input, eapi_Output, eapi_Spendable, eS_I_u8] at ehy100
    obtain ⟨_, u101, hr97⟩ := Option.bind_eq_some_iff.1 hr97
    have u101_0 := chk_some u101
    have n1_u101_0 : p14.length + y100.length ≤ 140737488355328 := by omega
    have n2_u101_0 : p14.length + y100.length ≤ 9223372036854775807 := by omega
    obtain ⟨y102, hy102, hr97⟩ := Option.bind_eq_some_iff.1 hr97
    have ehy102 := G_Lref01_AppendU32_eq hy102
    try simp only [intsR_nil, intsR_cons, intsR_app, intsR_tk, intsR_dr, intsR_st, intsR_rep, List.map_nil, List.map_cons, List.map_append, List.map_take, List.map_drop, List.map_set, List.map_replicate, List.nil_append, List.cons_append, List.append_assoc, eapi_Input, eapi_Output, eapi_Spendable, eS_I_u8] at ehy102
    refine ee_draw rfl (by simp [-chunk, -Cell.isSl, -callOp, callOp_eq, hT64, ehy100, n1_u101_0, n2_u101_0, hT62, ehy102, c98, c98N]; first | exact ⟨rfl, rfl⟩ | rfl) (by kernel_rfl) ?_
    simp only [outOf, thenQ, QL, if_true, ite_true, reduceCtorEq, if_false]
    refine ee_reg rfl (by simp [-chunk, -Cell.isSl, -callOp, callOp_eq, c98, c98N]; rfl) ?_
    obtain rfl := Option.some.inj hr97
    simp only [outOf, thenQ, QL, if_true, ite_true, reduceCtorEq, if_false]
    simp [und, List.replicate, Nat.add_assoc, c98, c98N]
  · skip
    have c98N := c98
    try simp at c98N
    rw [if_neg] at hr97
    rotate_left
    · simp [c98, c98N]
    refine ee_seq_condF (by simp [bV, c98, c98N]) ?_
    refine ee_seq_exit ?_
    obtain ⟨r103, q103, rfl⟩ := Option.map_eq_some_iff.1 hr97
    simp only [outOf, thenQ, QL, if_true, ite_true, reduceCtorEq, if_false]
    rintro rfl
    try simp only [outOf, thenQ, QL, if_true, ite_true, reduceCtorEq, if_false]
    unfold Lref09_encode_k1 at q103
    obtain ⟨y104, hy104, q103⟩ := Option.bind_eq_some_iff.1 q103
    have ehy104 := G_Lref01_AppendSize_eq hy104
    try simp only [intsR_nil, intsR_cons, intsR_app, intsR_tk, intsR_dr, intsR_st, intsR_rep, List.map_nil, List.map_cons, List.map_append, List.map_take, List.map_drop, List.map_set, List.map_replicate, List.nil_append, List.cons_append, List.append_assoc, eapi_Input, eapi_Output, eapi_Spendable, eS_I_u8] at ehy104
    refine ee_seq_reg rfl (by simp [-chunk, -Cell.isSl, -callOp, callOp_eq, hT63, ehy104, c98, c98N]; rfl) ?_
    refine ee_assoc ?_
    refine ee_seq_reg rfl (by simp [-chunk, -Cell.isSl, -callOp, callOp_eq, c98, c98N]; rfl) ?_
    refine ee_seq_block ?_
    refine ee_loop (kq := ⟨[1, 2, 5, 46, 47, 48], [2, 44], []⟩) (H := fun (s : Int × (List Int)) => match s with | (p28, p29) => (⟨(und 1 ++ ([.one (.v (.bool a1)), .ptr 2 0 0 0 4] ++ (und 2 ++ ([.one (.ms 44 0 0 (p29.length) 1)] ++ (und 40 ++ ([.one (.slice .no (List.map eapi_Output a0.2.2.1)), .one (.v (.int .i64 (a0.2.2.1.length : Int))), .one (.v (.int .i64 p28))] ++ (und 40)))))) : List PV), ([(2, ⟨0, 4, [[.v (.int .u32 a0.1), .slice .no (List.map eapi_Input a0.2.1), .slice .no (List.map eapi_Output a0.2.2.1), .v (.int .u32 a0.2.2.2)]], false, false⟩), (44, ⟨0, 1, intsR .u8 p29, false, true⟩)] : Boxes)⟩ : ASt)) (by kernel_rfl) q103 (by simp [und, List.replicate, c98, c98N]) ?_
    rintro ⟨p28, p29⟩ x105r hr105
    simp only [Lref09_encode_s2] at hr105
    unfold b49_2
    simp only [und, List.replicate, List.cons_append, List.nil_append]
    refine ee_seq_reg rfl (by simp [-chunk, -Cell.isSl, -callOp, callOp_eq, c98, c98N]; rfl) ?_
    by_cases c106 : p28 < (a0.2.2.1.length : Int)
    · skip
      have c106N := c106
      try simp at c106N
      rw [if_pos] at hr105
      rotate_left
      · simp [c98, c98N, c106, c106N]
      refine ee_seq_condT (by simp [bV, c98, c98N, c106, c106N]) ?_
      refine ee_seq_skip ?_
      refine ee_seq_block ?_
      obtain ⟨x107, hx107, hr105⟩ := Option.bind_eq_some_iff.1 hr105
      obtain ⟨hx107a, hx107b⟩ := idx_some hx107
      have hx107c := getE_of hx107b
      refine ee_seq_reg rfl (by simp [-chunk, -Cell.isSl, -callOp, callOp_eq, hx107a, hx107b, hx107c, c98, c98N, c106, c106N]; rfl) ?_
      obtain ⟨y108, hy108, hr105⟩ := Option.bind_eq_some_iff.1 hr105
      have ehy108 := G_Lref09_Out_eq hy108
      try simp only [intsR_nil, intsR_cons, intsR_app, intsR_tk, intsR_dr, intsR_st, intsR_rep, List.map_nil, List.map_cons, List.map_append, List.map_take, List.map_drop, List.map_set, List.map_replicate, List.nil_append, List.cons_append, List.append_assoc, eapi_Input, eapi_Output, eapi_Spendable, eS_I_u8] at ehy108
      obtain ⟨_, u109, hr105⟩ := Option.bind_eq_some_iff.1 hr105
      have u109_0 := chk_some u109
      have n1_u109_0 : p29.length + y108.length ≤ 140737488355328 := by omega
      have n2_u109_0 : p29.length + y108.length ≤ 9223372036854775807 := by omega
      refine ee_reg rfl (by simp [-chunk, -Cell.isSl, -callOp, callOp_eq, hT65, ehy108, n1_u109_0, n2_u109_0, c98, c98N, c106, c106N]; rfl) ?_
      simp only [outOf, thenQ, QL, if_true, ite_true, reduceCtorEq, if_false]
      refine ee_reg rfl (by simp [-chunk, -Cell.isSl, -callOp, callOp_eq, c98, c98N, c106, c106N]; rfl) ?_
      obtain rfl := Option.some.inj hr105
      simp only [outOf, thenQ, QL, if_true, ite_true, reduceCtorEq, if_false]
      simp [und, List.replicate, Nat.add_assoc, c98, c98N, c106, c106N]
    · skip
      have c106N := c106
      try simp at c106N
      rw [if_neg] at hr105
      rotate_left
      · simp [c98, c98N, c106, c106N]
      refine ee_seq_condF (by simp [bV, c98, c98N, c106, c106N]) ?_
      refine ee_seq_exit ?_
      obtain ⟨r110, q110, rfl⟩ := Option.map_eq_some_iff.1 hr105
      simp only [outOf, thenQ, QL, if_true, ite_true, reduceCtorEq, if_false]
      rintro rfl
      try simp only [outOf, thenQ, QL, if_true, ite_true, reduceCtorEq, if_false]
      unfold Lref09_encode_k2 at q110
      obtain ⟨y111, hy111, q110⟩ := Option.bind_eq_some_iff.1 q110
      have ehy111 := G_Lref01_AppendU32_eq hy111
      try simp only [intsR_nil, intsR_cons, intsR_app, intsR_tk, intsR_dr, intsR_st, intsR_rep, List.map_nil, List.map_cons, List.map_append, List.map_take, List.map_drop, List.map_set, List.map_replicate, List.nil_append, List.cons_append, List.append_assoc, eapi_Input, eapi_Output, eapi_Spendable, eS_I_u8] at ehy111
      refine ee_seq_reg rfl (by simp [-chunk, -Cell.isSl, -callOp, callOp_eq, hT62, ehy111, c98, c98N, c106, c106N]; rfl) ?_
      refine ee_assoc ?_
      refine ee_seq_reg rfl (by simp [-chunk, -Cell.isSl, -callOp, callOp_eq, c98, c98N, c106, c106N]; rfl) ?_
      refine ee_seq_block ?_
      refine ee_loop (kq := ⟨[1, 5, 62, 63, 64], [900005], [(5, none, 900005, 0), (5, none, 900005, 1)]⟩) (H := fun (s : Int × (List Int)) => match s with | (p60, p61) => (⟨(und 1 ++ ([.one (.v (.bool a1))] ++ (und 3 ++ ([.one (.ms 900005 0 0 (p61.length) 1)] ++ (und 56 ++ ([.one (.slice .no (List.map eapi_Input a0.2.1)), .one (.v (.int .i64 (a0.2.1.length : Int))), .one (.v (.int .i64 p60))] ++ (und 24)))))) : List PV), ([(900005, ⟨0, 1, intsR .u8 p61, false, true⟩)] : Boxes)⟩ : ASt)) (by kernel_rfl) q110 (by simp [und, List.replicate, c98, c98N, c106, c106N]) ?_
      rintro ⟨p60, p61⟩ x112r hr112
      simp only [Lref09_encode_s3] at hr112
      unfold b49_3
      simp only [und, List.replicate, List.cons_append, List.nil_append]
      refine ee_seq_reg rfl (by simp [-chunk, -Cell.isSl, -callOp, callOp_eq, c98, c98N, c106, c106N]; rfl) ?_
      by_cases c113 : p60 < (a0.2.1.length : Int)
      · skip
        have c113N := c113
        try simp at c113N
        rw [if_pos] at hr112
        rotate_left
        · simp [c98, c98N, c106, c106N, c113, c113N]
        refine ee_seq_condT (by simp [bV, c98, c98N, c106, c106N, c113, c113N]) ?_
        refine ee_seq_skip ?_
        refine ee_seq_block ?_
        obtain ⟨x114, hx114, hr112⟩ := Option.bind_eq_some_iff.1 hr112
        obtain ⟨hx114a, hx114b⟩ := idx_some hx114
        have hx114c := getE_of hx114b
        refine ee_seq_reg rfl (by simp [-chunk, -Cell.isSl, -callOp, callOp_eq, hx114a, hx114b, hx114c, c98, c98N, c106, c106N, c113, c113N]; rfl) ?_
        refine ee_assoc ?_
        refine ee_seq_reg rfl (by simp [-chunk, -Cell.isSl, -callOp, callOp_eq, c98, c98N, c106, c106N, c113, c113N]; rfl) ?_
        by_cases c115 : a1 = true
        · skip
          rw [if_neg] at hr112
          rotate_left
          · simp [c98, c98N, c106, c106N, c113, c113N, c115]
          refine ee_seq_condF (by simp [bV, c98, c98N, c106, c106N, c113, c113N, c115]) ?_
          refine ee_seq_skip ?_
          obtain ⟨y116, hy116, hr112⟩ := Option.bind_eq_some_iff.1 hr112
          have ehy116 := G_Lref01_AppendSize_eq hy116
          try simp only [intsR_nil, intsR_cons, intsR_app, intsR_tk, intsR_dr, intsR_st, intsR_rep, List.map_nil, List.map_cons, List.map_append, List.map_take, List.map_drop, List.map_set, List.map_replicate, List.nil_append, List.cons_append, List.append_assoc, eapi_Input, eapi_Output, eapi_Spendable, eS_I_u8] at ehy116
          refine ee_seq_reg rfl (by simp [-chunk, -Cell.isSl, -callOp, callOp_eq, hT63, ehy116, c98, c98N, c106, c106N, c113, c113N, c115]; rfl) ?_
          refine ee_seq_reg rfl (by simp [-chunk, -Cell.isSl, -callOp, callOp_eq, c98, c98N, c106, c106N, c113, c113N, c115]; rfl) ?_
          refine ee_block ?_
          refine ee_loop (kq := ⟨[1, 5, 62, 63, 64, 77, 78, 79], [900005], [(5, none, 900005, 0), (5, none, 900005, 1)]⟩) (H := fun (s : Int × (List Int)) => match s with | (p82, p83) => (⟨(und 1 ++ ([.one (.v (.bool a1))] ++ (und 3 ++ ([.one (.ms 900005 0 0 (p83.length) 1)] ++ (und 56 ++ ([.one (.slice .no (List.map eapi_Input a0.2.1)), .one (.v (.int .i64 (a0.2.1.length : Int))), .one (.v (.int .i64 p60))] ++ (und 12 ++ ([.one (.slice .no (List.map eS_I_u8 x114.2.2)), .one (.v (.int .i64 (x114.2.2.length : Int))), .one (.v (.int .i64 p82))] ++ (und 9)))))))) : List PV), ([(900005, ⟨0, 1, intsR .u8 p83, false, true⟩)] : Boxes)⟩ : ASt)) (by kernel_rfl) hr112 (by simp [und, List.replicate, c98, c98N, c106, c106N, c113, c113N, c115]) ?_
          rintro ⟨p82, p83⟩ x117r hr117
          simp only [Lref09_encode_s4] at hr117
          unfold b49_4
          simp only [und, List.replicate, List.cons_append, List.nil_append]
          refine ee_seq_reg rfl (by simp [-chunk, -Cell.isSl, -callOp, callOp_eq, c98, c98N, c106, c106N, c113, c113N, c115]; rfl) ?_
          by_cases c118 : p82 < (x114.2.2.length : Int)
          · skip
            have c118N := c118
            try simp at c118N
            rw [if_pos] at hr117
            rotate_left
            · simp [c98, c98N, c106, c106N, c113, c113N, c115, c118, c118N]
            refine ee_seq_condT (by simp [bV, c98, c98N, c106, c106N, c113, c113N, c115, c118, c118N]) ?_
            refine ee_seq_skip ?_
            refine ee_seq_block ?_
            obtain ⟨x119, hx119, hr117⟩ := Option.bind_eq_some_iff.1 hr117
            obtain ⟨hx119a, hx119b⟩ := idx_some hx119
            have hx119c := getE_of hx119b
            refine ee_seq_reg rfl (by simp [-chunk, -Cell.isSl, -callOp, callOp_eq, hx119a, hx119b, hx119c, c98, c98N, c106, c106N, c113, c113N, c115, c118, c118N]; rfl) ?_
            obtain ⟨y120, hy120, hr117⟩ := Option.bind_eq_some_iff.1 hr117
            have ehy120 := G_Lref01_AppendBytes_eq hy120
            try simp only [intsR_nil, intsR_cons, intsR_app, intsR_tk, intsR_dr, intsR_st, intsR_rep, List.map_nil, List.map_cons, List.map_append, List.map_take, List.map_drop, List.map_set, List.map_replicate, List.nil_append, List.cons_append, List.append_assoc, eapi_Input, eapi_Output, eapi_Spendable, eS_I_u8] at ehy120
            refine ee_reg rfl (by simp [-chunk, -Cell.isSl, -callOp, callOp_eq, hT66, ehy120, c98, c98N, c106, c106N, c113, c113N, c115, c118, c118N]; rfl) ?_
            simp only [outOf, thenQ, QL, if_true, ite_true, reduceCtorEq, if_false]
            refine ee_reg rfl (by simp [-chunk, -Cell.isSl, -callOp, callOp_eq, c98, c98N, c106, c106N, c113, c113N, c115, c118, c118N]; rfl) ?_
            obtain rfl := Option.some.inj hr117
            simp only [outOf, thenQ, QL, if_true, ite_true, reduceCtorEq, if_false]
            simp [und, List.replicate, Nat.add_assoc, c98, c98N, c106, c106N, c113, c113N, c115, c118, c118N]
          · skip
            have c118N := c118
            try simp at c118N
            rw [if_neg] at hr117
            rotate_left
            · simp [c98, c98N, c106, c106N, c113, c113N, c115, c118, c118N]
            refine ee_seq_condF (by simp [bV, c98, c98N, c106, c106N, c113, c113N, c115, c118, c118N]) ?_
            refine ee_seq_exit ?_
            obtain ⟨r121, q121, rfl⟩ := Option.map_eq_some_iff.1 hr117
            simp only [outOf, thenQ, QL, if_true, ite_true, reduceCtorEq, if_false]
            rintro rfl
            try simp only [outOf, thenQ, QL, if_true, ite_true, reduceCtorEq, if_false]
            unfold Lref09_encode_k4 at q121
            refine ee_reg rfl (by simp [-chunk, -Cell.isSl, -callOp, callOp_eq, c98, c98N, c106, c106N, c113, c113N, c115, c118, c118N]; rfl) ?_
            obtain rfl := Option.some.inj q121
            simp only [outOf, thenQ, QL, if_true, ite_true, reduceCtorEq, if_false]
            simp [und, List.replicate, Nat.add_assoc, c98, c98N, c106, c106N, c113, c113N, c115, c118, c118N]
        · skip
          rw [if_pos] at hr112
          rotate_left
          · simp [c98, c98N, c106, c106N, c113, c113N, c115]
          refine ee_seq_condT (by simp [bV, c98, c98N, c106, c106N, c113, c113N, c115]) ?_
          refine ee_seq_exit ?_
          obtain ⟨r122, q122, rfl⟩ := Option.map_eq_some_iff.1 hr112
          simp only [outOf, thenQ, QL, if_true, ite_true, reduceCtorEq, if_false]
          rintro rfl
          try simp only [outOf, thenQ, QL, if_true, ite_true, reduceCtorEq, if_false]
          unfold Lref09_encode_k3 at q122
          refine ee_seq_reg rfl (by simp [-chunk, -Cell.isSl, -callOp, callOp_eq, c98, c98N, c106, c106N, c113, c113N, c115]; rfl) ?_
          refine ee_ret ?_
          obtain rfl := Option.some.inj q122
          simp [FinQ, -chunk, -Cell.isSl, -callOp, callOp_eq, c98, c98N, c106, c106N, c113, c113N, c115]
      · skip
        have c113N := c113
        try simp at c113N
        rw [if_neg] at hr112
        rotate_left
        · simp [c98, c98N, c106, c106N, c113, c113N]
        refine ee_seq_condF (by simp [bV, c98, c98N, c106, c106N, c113, c113N]) ?_
        refine ee_seq_exit ?_
        obtain ⟨r123, q123, rfl⟩ := Option.map_eq_some_iff.1 hr112
        simp only [outOf, thenQ, QL, if_true, ite_true, reduceCtorEq, if_false]
        rintro rfl
        try simp only [outOf, thenQ, QL, if_true, ite_true, reduceCtorEq, if_false]
        unfold Lref09_encode_k3 at q123
        refine ee_seq_reg rfl (by simp [-chunk, -Cell.isSl, -callOp, callOp_eq, c98, c98N, c106, c106N, c113, c113N]; rfl) ?_
        refine ee_ret ?_
        obtain rfl := Option.some.inj q123
        simp [FinQ, -chunk, -Cell.isSl, -callOp, callOp_eq, c98, c98N, c106, c106N, c113, c113N]
def kp48 : Keep := fun i => if i = 4 then ⟨[1, 20, 21, 22], [1], []⟩ else if i = 10 then ⟨[1, 37, 38, 39], [1], []⟩ else if i = 15 then ⟨[1, 37, 38, 39, 48, 49, 50], [1], []⟩ else ⟨[], [], []⟩
theorem w48 {T : Tab} (hT49 : T 49 = some G_Lref09_encode) (a0 : Tapi_Tx) (x : Bool) (hr : Lref09_Fits a0 = some x) : ∃ kp fl n, execFn tt T G kp fl n Try.f48 [.agg ([.v (.int .u32 a0.1), .slice .no (List.map eapi_Input a0.2.1), .slice .no (List.map eapi_Output a0.2.2.1), .v (.int .u32 a0.2.2.2)])] = some (.one (.v (.bool x)), []) := by
  refine fnE (kp := kp48) (w := false) body48 ?_
  unfold c48
  rw [Try.ntmps48]
  unfold Lref09_Fits at hr
  refine ee_seq_reg rfl (by simp [-chunk, -Cell.isSl, -callOp, callOp_eq, ]; rfl) ?_
  refine ee_assoc ?_
  by_cases c35 : 64 < (a0.2.1.length : Int)
  · skip
    have c35N := c35
    try simp at c35N
    refine ee_seq_reg rfl (by simp [-chunk, -Cell.isSl, -callOp, callOp_eq, c35, c35N]; rfl) ?_
    rw [if_pos] at hr
    rotate_left
    · simp [c35, c35N]
    refine ee_seq_condT (by simp [bV, c35, c35N]) ?_
    refine ee_assoc ?_
    refine ee_seq_reg rfl (by simp [-chunk, -Cell.isSl, -callOp, callOp_eq, c35, c35N]; rfl) ?_
    refine ee_seq_ret ?_
    obtain rfl := Option.some.inj hr
    simp [FinQ, -chunk, -Cell.isSl, -callOp, callOp_eq, c35, c35N]
  · skip
    have c35N := c35
    try simp at c35N
    refine ee_seq_reg rfl (by simp [-chunk, -Cell.isSl, -callOp, callOp_eq, c35, c35N]; rfl) ?_
    by_cases c36 : 64 < (a0.2.2.1.length : Int)
    · skip
      have c36N := c36
      try simp at c36N
      rw [if_pos] at hr
      rotate_left
      · simp [c35, c35N, c36, c36N]
      refine ee_seq_condT (by simp [bV, c35, c35N, c36, c36N]) ?_
      refine ee_assoc ?_
      refine ee_seq_reg rfl (by simp [-chunk, -Cell.isSl, -callOp, callOp_eq, c35, c35N, c36, c36N]; rfl) ?_
      refine ee_seq_ret ?_
      obtain rfl := Option.some.inj hr
      simp [FinQ, -chunk, -Cell.isSl, -callOp, callOp_eq, c35, c35N, c36, c36N]
    · skip
      have c36N := c36
      try simp at c36N
      rw [if_neg] at hr
      rotate_left
      · simp [c35, c35N, c36, c36N]
      refine ee_seq_condF (by simp [bV, c35, c35N, c36, c36N]) ?_
      refine ee_seq_skip ?_
      refine ee_assoc ?_
      refine ee_seq_reg rfl (by simp [-chunk, -Cell.isSl, -callOp, callOp_eq, c35, c35N, c36, c36N]; rfl) ?_
      refine ee_seq_block ?_
      refine ee_loop (kq := ⟨[1, 20, 21, 22], [1], []⟩) (H := fun (s : Int) => match s with | p4 => (⟨(und 1 ++ ([.ptr 1 0 0 0 4] ++ (und 18 ++ ([.one (.slice .no (List.map eapi_Output a0.2.2.1)), .one (.v (.int .i64 (a0.2.2.1.length : Int))), .one (.v (.int .i64 p4))] ++ (und 40)))) : List PV), ([(1, ⟨0, 4, [[.v (.int .u32 a0.1), .slice .no (List.map eapi_Input a0.2.1), .slice .no (List.map eapi_Output a0.2.2.1), .v (.int .u32 a0.2.2.2)]], false, false⟩)] : Boxes)⟩ : ASt)) (by kernel_rfl) hr (by simp [und, List.replicate, c35, c35N, c36, c36N]) ?_
      rintro p4 x37r hr37
      simp only [Lref09_Fits_s1] at hr37
      unfold b48_1
      simp only [und, List.replicate, List.cons_append, List.nil_append]
      refine ee_seq_reg rfl (by simp [-chunk, -Cell.isSl, -callOp, callOp_eq, c35, c35N, c36, c36N]; rfl) ?_
      by_cases c38 : p4 < (a0.2.2.1.length : Int)
      · skip
        have c38N := c38
        try simp at c38N
        rw [if_pos] at hr37
        rotate_left
        · simp [c35, c35N, c36, c36N, c38, c38N]
        refine ee_seq_condT (by simp [bV, c35, c35N, c36, c36N, c38, c38N]) ?_
        refine ee_seq_skip ?_
        refine ee_seq_block ?_
        obtain ⟨x39, hx39, hr37⟩ := Option.bind_eq_some_iff.1 hr37
        obtain ⟨hx39a, hx39b⟩ := idx_some hx39
        have hx39c := getE_of hx39b
        refine ee_seq_reg rfl (by simp [-chunk, -Cell.isSl, -callOp, callOp_eq, hx39a, hx39b, hx39c, c35, c35N, c36, c36N, c38, c38N]; rfl) ?_
        by_cases c40 : x39.1 < 0
        · skip
          refine ee_seq_reg rfl (by simp [-chunk, -Cell.isSl, -callOp, callOp_eq, c35, c35N, c36, c36N, c38, c38N, c40]; rfl) ?_
          rw [if_pos] at hr37
          rotate_left
          · simp [c35, c35N, c36, c36N, c38, c38N, c40]
          refine ee_condT (by simp [bV, c35, c35N, c36, c36N, c38, c38N, c40]) ?_
          refine ee_seq_reg rfl (by simp [-chunk, -Cell.isSl, -callOp, callOp_eq, c35, c35N, c36, c36N, c38, c38N, c40]; rfl) ?_
          refine ee_ret ?_
          obtain rfl := Option.some.inj hr37
          simp only [outOf, thenQ, QL, if_true, ite_true, reduceCtorEq, if_false]
          rintro rfl
          simp [FinQ, -chunk, -Cell.isSl, -callOp, callOp_eq, c35, c35N, c36, c36N, c38, c38N, c40]
        · skip
          refine ee_seq_reg rfl (by simp [-chunk, -Cell.isSl, -callOp, callOp_eq, c35, c35N, c36, c36N, c38, c38N, c40]; rfl) ?_
          by_cases c41 : 520 < (x39.2.length : Int)
          · skip
            have c41N := c41
            try simp at c41N
            rw [if_pos] at hr37
            rotate_left
            · simp [c35, c35N, c36, c36N, c38, c38N, c40, c41, c41N]
            refine ee_condT (by simp [bV, c35, c35N, c36, c36N, c38, c38N, c40, c41, c41N]) ?_
            refine ee_seq_reg rfl (by simp [-chunk, -Cell.isSl, -callOp, callOp_eq, c35, c35N, c36, c36N, c38, c38N, c40, c41, c41N]; rfl) ?_
            refine ee_ret ?_
            obtain rfl := Option.some.inj hr37
            simp only [outOf, thenQ, QL, if_true, ite_true, reduceCtorEq, if_false]
            rintro rfl
            simp [FinQ, -chunk, -Cell.isSl, -callOp, callOp_eq, c35, c35N, c36, c36N, c38, c38N, c40, c41, c41N]
          · skip
            have c41N := c41
            try simp at c41N
            rw [if_neg] at hr37
            rotate_left
            · simp [c35, c35N, c36, c36N, c38, c38N, c40, c41, c41N]
            refine ee_condF (by simp [bV, c35, c35N, c36, c36N, c38, c38N, c40, c41, c41N]) ?_
            refine ee_skip ?_
            simp only [outOf, thenQ, QL, if_true, ite_true, reduceCtorEq, if_false]
            refine ee_reg rfl (by simp [-chunk, -Cell.isSl, -callOp, callOp_eq, c35, c35N, c36, c36N, c38, c38N, c40, c41, c41N]; rfl) ?_
            obtain rfl := Option.some.inj hr37
            simp only [outOf, thenQ, QL, if_true, ite_true, reduceCtorEq, if_false]
            simp [und, List.replicate, Nat.add_assoc, c35, c35N, c36, c36N, c38, c38N, c40, c41, c41N]
      · skip
        have c38N := c38
        try simp at c38N
        rw [if_neg] at hr37
        rotate_left
        · simp [c35, c35N, c36, c36N, c38, c38N]
        refine ee_seq_condF (by simp [bV, c35, c35N, c36, c36N, c38, c38N]) ?_
        refine ee_seq_exit ?_
        obtain ⟨r42, q42, rfl⟩ := Option.map_eq_some_iff.1 hr37
        simp only [outOf, thenQ, QL, if_true, ite_true, reduceCtorEq, if_false]
        rintro rfl
        try simp only [outOf, thenQ, QL, if_true, ite_true, reduceCtorEq, if_false]
        unfold Lref09_Fits_k1 at q42
        refine ee_assoc ?_
        refine ee_seq_reg rfl (by simp [-chunk, -Cell.isSl, -callOp, callOp_eq, c35, c35N, c36, c36N, c38, c38N]; rfl) ?_
        refine ee_seq_block ?_
        refine ee_loop (kq := ⟨[1, 37, 38, 39], [1], []⟩) (H := fun (s : Int) => match s with | p19 => (⟨(und 1 ++ ([.ptr 1 0 0 0 4] ++ (und 35 ++ ([.one (.slice .no (List.map eapi_Input a0.2.1)), .one (.v (.int .i64 (a0.2.1.length : Int))), .one (.v (.int .i64 p19))] ++ (und 23)))) : List PV), ([(1, ⟨0, 4, [[.v (.int .u32 a0.1), .slice .no (List.map eapi_Input a0.2.1), .slice .no (List.map eapi_Output a0.2.2.1), .v (.int .u32 a0.2.2.2)]], false, false⟩)] : Boxes)⟩ : ASt)) (by kernel_rfl) q42 (by simp [und, List.replicate, c35, c35N, c36, c36N, c38, c38N]) ?_
        rintro p19 x43r hr43
        simp only [Lref09_Fits_s2] at hr43
        unfold b48_2
        simp only [und, List.replicate, List.cons_append, List.nil_append]
        refine ee_seq_reg rfl (by simp [-chunk, -Cell.isSl, -callOp, callOp_eq, c35, c35N, c36, c36N, c38, c38N]; rfl) ?_
        by_cases c44 : p19 < (a0.2.1.length : Int)
        · skip
          have c44N := c44
          try simp at c44N
          rw [if_pos] at hr43
          rotate_left
          · simp [c35, c35N, c36, c36N, c38, c38N, c44, c44N]
          refine ee_seq_condT (by simp [bV, c35, c35N, c36, c36N, c38, c38N, c44, c44N]) ?_
          refine ee_seq_skip ?_
          refine ee_seq_block ?_
          obtain ⟨x45, hx45, hr43⟩ := Option.bind_eq_some_iff.1 hr43
          obtain ⟨hx45a, hx45b⟩ := idx_some hx45
          have hx45c := getE_of hx45b
          refine ee_seq_reg rfl (by simp [-chunk, -Cell.isSl, -callOp, callOp_eq, hx45a, hx45b, hx45c, c35, c35N, c36, c36N, c38, c38N, c44, c44N]; rfl) ?_
          refine ee_assoc ?_
          refine ee_seq_reg rfl (by simp [-chunk, -Cell.isSl, -callOp, callOp_eq, c35, c35N, c36, c36N, c38, c38N, c44, c44N]; rfl) ?_
          by_cases c46 : 32 < (x45.2.2.length : Int)
          · skip
            have c46N := c46
            try simp at c46N
            rw [if_pos] at hr43
            rotate_left
            · simp [c35, c35N, c36, c36N, c38, c38N, c44, c44N, c46, c46N]
            refine ee_seq_condT (by simp [bV, c35, c35N, c36, c36N, c38, c38N, c44, c44N, c46, c46N]) ?_
            refine ee_assoc ?_
            refine ee_seq_reg rfl (by simp [-chunk, -Cell.isSl, -callOp, callOp_eq, c35, c35N, c36, c36N, c38, c38N, c44, c44N, c46, c46N]; rfl) ?_
            refine ee_seq_ret ?_
            obtain rfl := Option.some.inj hr43
            simp only [outOf, thenQ, QL, if_true, ite_true, reduceCtorEq, if_false]
            rintro rfl
            simp [FinQ, -chunk, -Cell.isSl, -callOp, callOp_eq, c35, c35N, c36, c36N, c38, c38N, c44, c44N, c46, c46N]
          · skip
            have c46N := c46
            try simp at c46N
            rw [if_neg] at hr43
            rotate_left
            · simp [c35, c35N, c36, c36N, c38, c38N, c44, c44N, c46, c46N]
            refine ee_seq_condF (by simp [bV, c35, c35N, c36, c36N, c38, c38N, c44, c44N, c46, c46N]) ?_
            refine ee_seq_skip ?_
            refine ee_seq_reg rfl (by simp [-chunk, -Cell.isSl, -callOp, callOp_eq, c35, c35N, c36, c36N, c38, c38N, c44, c44N, c46, c46N]; rfl) ?_
            refine ee_block ?_
            refine ee_loop (kq := ⟨[1, 37, 38, 39, 48, 49, 50], [1], []⟩) (H := fun (s : Int) => match s with | p31 => (⟨(und 1 ++ ([.ptr 1 0 0 0 4] ++ (und 35 ++ ([.one (.slice .no (List.map eapi_Input a0.2.1)), .one (.v (.int .i64 (a0.2.1.length : Int))), .one (.v (.int .i64 p19))] ++ (und 8 ++ ([.one (.slice .no (List.map eS_I_u8 x45.2.2)), .one (.v (.int .i64 (x45.2.2.length : Int))), .one (.v (.int .i64 p31))] ++ (und 12)))))) : List PV), ([(1, ⟨0, 4, [[.v (.int .u32 a0.1), .slice .no (List.map eapi_Input a0.2.1), .slice .no (List.map eapi_Output a0.2.2.1), .v (.int .u32 a0.2.2.2)]], false, false⟩)] : Boxes)⟩ : ASt)) (by kernel_rfl) hr43 (by simp [und, List.replicate, c35, c35N, c36, c36N, c38, c38N, c44, c44N, c46, c46N]) ?_
            rintro p31 x47r hr47
            simp only [Lref09_Fits_s3] at hr47
            unfold b48_3
            simp only [und, List.replicate, List.cons_append, List.nil_append]
            refine ee_seq_reg rfl (by simp [-chunk, -Cell.isSl, -callOp, callOp_eq, c35, c35N, c36, c36N, c38, c38N, c44, c44N, c46, c46N]; rfl) ?_
            by_cases c48 : p31 < (x45.2.2.length : Int)
            · skip
              have c48N := c48
              try simp at c48N
              rw [if_pos] at hr47
              rotate_left
              · simp [c35, c35N, c36, c36N, c38, c38N, c44, c44N, c46, c46N, c48, c48N]
              refine ee_seq_condT (by simp [bV, c35, c35N, c36, c36N, c38, c38N, c44, c44N, c46, c46N, c48, c48N]) ?_
              refine ee_seq_skip ?_
              refine ee_seq_block ?_
              obtain ⟨x49, hx49, hr47⟩ := Option.bind_eq_some_iff.1 hr47
              obtain ⟨hx49a, hx49b⟩ := idx_some hx49
              have hx49c := getE_of hx49b
              refine ee_seq_reg rfl (by simp [-chunk, -Cell.isSl, -callOp, callOp_eq, hx49a, hx49b, hx49c, c35, c35N, c36, c36N, c38, c38N, c44, c44N, c46, c46N, c48, c48N]; rfl) ?_
              refine ee_seq_reg rfl (by simp [-chunk, -Cell.isSl, -callOp, callOp_eq, c35, c35N, c36, c36N, c38, c38N, c44, c44N, c46, c46N, c48, c48N]; rfl) ?_
              by_cases c50 : 520 < (x49.length : Int)
              · skip
                have c50N := c50
                try simp at c50N
                rw [if_pos] at hr47
                rotate_left
                · simp [c35, c35N, c36, c36N, c38, c38N, c44, c44N, c46, c46N, c48, c48N, c50, c50N]
                refine ee_condT (by simp [bV, c35, c35N, c36, c36N, c38, c38N, c44, c44N, c46, c46N, c48, c48N, c50, c50N]) ?_
                refine ee_seq_reg rfl (by simp [-chunk, -Cell.isSl, -callOp, callOp_eq, c35, c35N, c36, c36N, c38, c38N, c44, c44N, c46, c46N, c48, c48N, c50, c50N]; rfl) ?_
                refine ee_ret ?_
                obtain rfl := Option.some.inj hr47
                simp only [outOf, thenQ, QL, if_true, ite_true, reduceCtorEq, if_false]
                rintro rfl
                simp only [outOf, thenQ, QL, if_true, ite_true, reduceCtorEq, if_false]
                rintro rfl
                simp [FinQ, -chunk, -Cell.isSl, -callOp, callOp_eq, c35, c35N, c36, c36N, c38, c38N, c44, c44N, c46, c46N, c48, c48N, c50, c50N]
              · skip
                have c50N := c50
                try simp at c50N
                rw [if_neg] at hr47
                rotate_left
                · simp [c35, c35N, c36, c36N, c38, c38N, c44, c44N, c46, c46N, c48, c48N, c50, c50N]
                refine ee_condF (by simp [bV, c35, c35N, c36, c36N, c38, c38N, c44, c44N, c46, c46N, c48, c48N, c50, c50N]) ?_
                refine ee_skip ?_
                simp only [outOf, thenQ, QL, if_true, ite_true, reduceCtorEq, if_false]
                refine ee_reg rfl (by simp [-chunk, -Cell.isSl, -callOp, callOp_eq, c35, c35N, c36, c36N, c38, c38N, c44, c44N, c46, c46N, c48, c48N, c50, c50N]; rfl) ?_
                obtain rfl := Option.some.inj hr47
                simp only [outOf, thenQ, QL, if_true, ite_true, reduceCtorEq, if_false]
                simp [und, List.replicate, Nat.add_assoc, c35, c35N, c36, c36N, c38, c38N, c44, c44N, c46, c46N, c48, c48N, c50, c50N]
            · skip
              have c48N := c48
              try simp at c48N
              rw [if_neg] at hr47
              rotate_left
              · simp [c35, c35N, c36, c36N, c38, c38N, c44, c44N, c46, c46N, c48, c48N]
              refine ee_seq_condF (by simp [bV, c35, c35N, c36, c36N, c38, c38N, c44, c44N, c46, c46N, c48, c48N]) ?_
              refine ee_seq_exit ?_
              obtain ⟨r51, q51, rfl⟩ := Option.map_eq_some_iff.1 hr47
              simp only [outOf, thenQ, QL, if_true, ite_true, reduceCtorEq, if_false]
              rintro rfl
              try simp only [outOf, thenQ, QL, if_true, ite_true, reduceCtorEq, if_false]
              unfold Lref09_Fits_k3 at q51
              refine ee_reg rfl (by simp [-chunk, -Cell.isSl, -callOp, callOp_eq, c35, c35N, c36, c36N, c38, c38N, c44, c44N, c46, c46N, c48, c48N]; rfl) ?_
              obtain rfl := Option.some.inj q51
              simp only [outOf, thenQ, QL, if_true, ite_true, reduceCtorEq, if_false]
              simp [und, List.replicate, Nat.add_assoc, c35, c35N, c36, c36N, c38, c38N, c44, c44N, c46, c46N, c48, c48N]
        · skip
          have c44N := c44
          try simp at c44N
          rw [if_neg] at hr43
          rotate_left
          · simp [c35, c35N, c36, c36N, c38, c38N, c44, c44N]
          refine ee_seq_condF (by simp [bV, c35, c35N, c36, c36N, c38, c38N, c44, c44N]) ?_
          refine ee_seq_exit ?_
          obtain ⟨r52, q52, rfl⟩ := Option.map_eq_some_iff.1 hr43
          simp only [outOf, thenQ, QL, if_true, ite_true, reduceCtorEq, if_false]
          rintro rfl
          try simp only [outOf, thenQ, QL, if_true, ite_true, reduceCtorEq, if_false]
          unfold Lref09_Fits_k2 at q52
          obtain ⟨y53, hy53, q52⟩ := Option.bind_eq_some_iff.1 q52
          have ehy53 := G_Lref09_encode_eq hy53
          try simp only [intsR_nil, intsR_cons, intsR_app, intsR_tk, intsR_dr, intsR_st, intsR_rep, List.map_nil, List.map_cons, List.map_append, List.map_take, List.map_drop, List.map_set, List.map_replicate, List.nil_append, List.cons_append, List.append_assoc, eapi_Input, eapi_Output, eapi_Spendable, eS_I_u8] at ehy53
          refine ee_seq_reg rfl (by simp [-chunk, -Cell.isSl, -callOp, callOp_eq, hT49, ehy53, c35, c35N, c36, c36N, c38, c38N, c44, c44N]; rfl) ?_
          refine ee_ret ?_
          obtain rfl := Option.some.inj q52
          simp [FinQ, -chunk, -Cell.isSl, -callOp, callOp_eq, hT49, ehy53, c35, c35N, c36, c36N, c38, c38N, c44, c44N]
def kp33 : Keep := fun i => ⟨[], [], []⟩
theorem w33 {T : Tab} (hT48 : T 48 = some G_Lref09_Fits) (hT49 : T 49 = some G_Lref09_encode) (a0 : Tapi_Tx) (x : Int) (hr : Lref09_Weight a0 = some x) : ∃ kp fl n, execFn tt T G kp fl n Try.f33 [.agg ([.v (.int .u32 a0.1), .slice .no (List.map eapi_Input a0.2.1), .slice .no (List.map eapi_Output a0.2.2.1), .v (.int .u32 a0.2.2.2)])] = some (.one (.v (.int .i64 x)), []) := by
  refine fnE (kp := kp33) (w := false) body33 ?_
  unfold c33
  rw [Try.ntmps33]
  unfold Lref09_Weight at hr
  refine ee_seq_reg rfl (by simp [-chunk, -Cell.isSl, -callOp, callOp_eq, ]; rfl) ?_
  refine ee_assoc ?_
  obtain ⟨y4, hy4, hr⟩ := Option.bind_eq_some_iff.1 hr
  have ehy4 := G_Lref09_Fits_eq hy4
  try simp only [intsR_nil, intsR_cons, intsR_app, intsR_tk, intsR_dr, intsR_st, intsR_rep, List.map_nil, List.map_cons, List.map_append, List.map_take, List.map_drop, List.map_set, List.map_replicate, List.nil_append, List.cons_append, List.append_assoc, eapi_Input, eapi_Output, eapi_Spendable, eS_I_u8] at ehy4
  refine ee_seq_reg rfl (by simp [-chunk, -Cell.isSl, -callOp, callOp_eq, hT48, ehy4]; rfl) ?_
  by_cases c5 : y4 = true
  · skip
    rw [if_neg] at hr
    rotate_left
    · simp [c5]
    refine ee_seq_condF (by simp [bV, c5]) ?_
    refine ee_seq_skip ?_
    obtain ⟨y6, hy6, hr⟩ := Option.bind_eq_some_iff.1 hr
    have ehy6 := G_Lref09_encode_eq hy6
    try simp only [intsR_nil, intsR_cons, intsR_app, intsR_tk, intsR_dr, intsR_st, intsR_rep, List.map_nil, List.map_cons, List.map_append, List.map_take, List.map_drop, List.map_set, List.map_replicate, List.nil_append, List.cons_append, List.append_assoc, eapi_Input, eapi_Output, eapi_Spendable, eS_I_u8] at ehy6
    obtain ⟨y7, hy7, hr⟩ := Option.bind_eq_some_iff.1 hr
    have ehy7 := G_Lref09_encode_eq hy7
    try simp only [intsR_nil, intsR_cons, intsR_app, intsR_tk, intsR_dr, intsR_st, intsR_rep, List.map_nil, List.map_cons, List.map_append, List.map_take, List.map_drop, List.map_set, List.map_replicate, List.nil_append, List.cons_append, List.append_assoc, eapi_Input, eapi_Output, eapi_Spendable, eS_I_u8] at ehy7
    refine ee_seq_draw rfl (by simp [-chunk, -Cell.isSl, -callOp, callOp_eq, hT49, ehy6, ehy7, c5]; first | exact ⟨rfl, rfl⟩ | rfl) (by kernel_rfl) ?_
    refine ee_ret ?_
    obtain rfl := Option.some.inj hr
    simp [FinQ, -chunk, -Cell.isSl, -callOp, callOp_eq, hT49, ehy6, ehy7, c5]
  · skip
    rw [if_pos] at hr
    rotate_left
    · simp [c5]
    refine ee_seq_condT (by simp [bV, c5]) ?_
    refine ee_assoc ?_
    refine ee_seq_reg rfl (by simp [-chunk, -Cell.isSl, -callOp, callOp_eq, c5]; rfl) ?_
    refine ee_seq_ret ?_
    obtain rfl := Option.some.inj hr
    simp [FinQ, -chunk, -Cell.isSl, -callOp, callOp_eq, c5]
def kp34 : Keep := fun i => if i = 3 then ⟨[1, 2, 3, 4], [1, 2, 27], [(3, none, 27, 35)]⟩ else ⟨[], [], []⟩
theorem w34 {T : Tab} (a0 : Tapi_Tx) (x : Tapi_Tx) (hr : Lref34_bare a0 = some x) : ∃ kp fl n, execFn tt T G kp fl n Try.f34 [.agg ([.v (.int .u32 a0.1), .slice .no (List.map eapi_Input a0.2.1), .slice .no (List.map eapi_Output a0.2.2.1), .v (.int .u32 a0.2.2.2)])] = some (.agg ([.v (.int .u32 x.1), .own 35 (List.map eapi_Input x.2.1), .slice .no (List.map eapi_Output x.2.2.1), .v (.int .u32 x.2.2.2)]), []) := by
  refine fnE (kp := kp34) (w := true) body34 ?_
  unfold c34
  rw [Try.ntmps34]
  unfold Lref34_bare at hr
  refine ee_seq_reg rfl (by simp [-chunk, -Cell.isSl, -callOp, callOp_eq, ]; rfl) ?_
  refine ee_seq_reg rfl (by simp [-chunk, -Cell.isSl, -callOp, callOp_eq, ]; rfl) ?_
  refine ee_assoc ?_
  refine ee_seq_reg rfl (by simp [-chunk, -Cell.isSl, -callOp, callOp_eq, ]; rfl) ?_
  refine ee_seq_block ?_
  refine ee_loop (kq := ⟨[1, 2, 3, 4], [1, 2, 27], [(3, none, 27, 35)]⟩) (H := fun (s : Int × (List Tapi_Input)) => match s with | (p6, p7) => (⟨(und 1 ++ ([.ptr 1 0 0 0 4, .ptr 2 0 0 0 4, .one (.ms 27 0 0 (p7.length) 35), .one (.v (.int .i64 p6))] ++ (und 26)) : List PV), ([(1, ⟨0, 4, [[.v (.int .u32 a0.1), .slice .no (List.map eapi_Input a0.2.1), .slice .no (List.map eapi_Output a0.2.2.1), .v (.int .u32 a0.2.2.2)]], false, false⟩), (2, ⟨0, 4, [[.v (.int .u32 0), .slice .nil [], .slice .nil [], .v (.int .u32 0)]], false, false⟩), (27, ⟨0, 35, List.map eapi_Input p7, false, true⟩)] : Boxes)⟩ : ASt)) (by kernel_rfl) hr (by simp [und, List.replicate, ]) ?_
  rintro ⟨p6, p7⟩ x12r hr12
  simp only [Lref34_bare_s1] at hr12
  unfold b34_1
  simp only [und, List.replicate, List.cons_append, List.nil_append]
  refine ee_assoc ?_
  refine ee_seq_reg rfl (by simp [-chunk, -Cell.isSl, -callOp, callOp_eq, ]; rfl) ?_
  by_cases c13 : p6 < (a0.2.1.length : Int)
  · skip
    have c13N := c13
    try simp at c13N
    rw [if_pos] at hr12
    rotate_left
    · simp [c13, c13N]
    refine ee_seq_condT (by simp [bV, c13, c13N]) ?_
    refine ee_seq_skip ?_
    refine ee_seq_block ?_
    obtain ⟨x14, hx14, hr12⟩ := Option.bind_eq_some_iff.1 hr12
    obtain ⟨hx14a, hx14b⟩ := idx_some hx14
    have hx14c := getE_of hx14b
    obtain ⟨hx14a, hx14b⟩ := idx_some hx14
    have hx14c := getE_of hx14b
    obtain ⟨_, u15, hr12⟩ := Option.bind_eq_some_iff.1 hr12
    have u15_0 := chk_some u15
    have n1_u15_0 : (p7.length + 1) * 64 ≤ 140737488355328 := by omega
    have n2_u15_0 : p7.length + 1 ≤ 9223372036854775807 := by omega
    refine ee_draw rfl (by simp [-chunk, -Cell.isSl, -callOp, callOp_eq, hx14a, hx14b, hx14c, n1_u15_0, n2_u15_0, c13, c13N]; first | exact ⟨rfl, rfl⟩ | rfl) (by kernel_rfl) ?_
    simp only [outOf, thenQ, QL, if_true, ite_true, reduceCtorEq, if_false]
    refine ee_reg rfl (by simp [-chunk, -Cell.isSl, -callOp, callOp_eq, c13, c13N]; rfl) ?_
    obtain rfl := Option.some.inj hr12
    simp only [outOf, thenQ, QL, if_true, ite_true, reduceCtorEq, if_false]
    simp [und, List.replicate, Nat.add_assoc, c13, c13N]
  · skip
    have c13N := c13
    try simp at c13N
    rw [if_neg] at hr12
    rotate_left
    · simp [c13, c13N]
    refine ee_seq_condF (by simp [bV, c13, c13N]) ?_
    refine ee_seq_exit ?_
    obtain ⟨r16, q16, rfl⟩ := Option.map_eq_some_iff.1 hr12
    simp only [outOf, thenQ, QL, if_true, ite_true, reduceCtorEq, if_false]
    rintro rfl
    try simp only [outOf, thenQ, QL, if_true, ite_true, reduceCtorEq, if_false]
    unfold Lref34_bare_k1 at q16
    refine ee_seq_reg rfl (by simp [-chunk, -Cell.isSl, -callOp, callOp_eq, c13, c13N]; rfl) ?_
    refine ee_seq_reg rfl (by simp [-chunk, -Cell.isSl, -callOp, callOp_eq, c13, c13N]; rfl) ?_
    refine ee_ret ?_
    obtain rfl := Option.some.inj q16
    simp [FinQ, -chunk, -Cell.isSl, -callOp, callOp_eq, c13, c13N]
end Go.Proofs.Ytanhccemhpmnhaa
