import Derived.Test.YtconfbgcjkjnkaaDoorLfK
import Derived.Test.YtconfbgcjkjnkaaDoorCode
namespace Go.Proofs.YtconfbgcjkjnkaaDoor
open Go.RowKit
open Go.Av
open Go.Lc
set_option maxRecDepth 100000
set_option linter.unusedSimpArgs false
set_option linter.unusedVariables false
set_option maxHeartbeats 4000000
def kp10 : Keep := fun i => if i = 3 then ⟨[0, 2, 3, 4], [2, 3, 45, 1000000], [(3, some 1, 45, 35)]⟩ else if i = 10 then ⟨[0, 2, 3, 6], [2, 3, 45, 63, 1000000], [(3, some 2, 63, 2)]⟩ else ⟨[], [], []⟩
theorem w10 {T : Tab} (hT17 : T 17 = some G_Lmill_Deck_Next) (hT23 : T 23 = some G_Lmade_Script) (hT31 : T 31 = some G_Lmill_Deck_Range) (hT32 : T 32 = some G_Lmill_Hash) (a0 : Tlightclientmill_Deck) (x : Tapi_Tx × Tlightclientmill_Deck) (hr : Lmill_Tx a0 = some x) : ∃ kp fl n, execFn tt T G kp fl n Tryd.f10 [.io ([.slice .no (intsR .i64 a0.1), .v (.int .i64 a0.2)])] = some (.agg ([.v (.int .u32 x.1.1), .own 35 (List.map eapi_Input x.1.2.1), .own 2 (List.map eapi_Output x.1.2.2.1), .v (.int .u32 x.1.2.2.2)]), [[.slice .no (intsR .i64 x.2.1), .v (.int .i64 x.2.2)]]) := by
  refine fnE (kp := kp10) (w := true) body10 ?_
  unfold c10
  rw [Tryd.ntmps10]
  unfold Lmill_Tx at hr
  refine ee_seq_reg rfl (by simp [-chunk, -Cell.isSl, -callOp, callOp_eq, ]; rfl) ?_
  obtain ⟨y72, hy72, hr⟩ := Option.bind_eq_some_iff.1 hr
  have ehy72 := G_Lmill_Deck_Next_eq hy72
  try simp only [intsR_nil, intsR_cons, intsR_app, intsR_tk, intsR_dr, intsR_st, intsR_rep, List.map_nil, List.map_cons, List.map_append, List.map_take, List.map_drop, List.map_set, List.map_replicate, List.nil_append, List.cons_append, List.append_assoc, eS_I_u8, eapi_Input, eapi_Output, eapi_Entry] at ehy72
  obtain ⟨y73, hy73, hr⟩ := Option.bind_eq_some_iff.1 hr
  have ehy73 := G_Lmill_Deck_Next_eq hy73
  try simp only [intsR_nil, intsR_cons, intsR_app, intsR_tk, intsR_dr, intsR_st, intsR_rep, List.map_nil, List.map_cons, List.map_append, List.map_take, List.map_drop, List.map_set, List.map_replicate, List.nil_append, List.cons_append, List.append_assoc, eS_I_u8, eapi_Input, eapi_Output, eapi_Entry] at ehy73
  refine ee_seq_reg rfl (by simp [-chunk, -Cell.isSl, -callOp, callOp_eq, hT17, ehy72, ehy73]; rfl) ?_
  refine ee_assoc ?_
  obtain ⟨y74, hy74, hr⟩ := Option.bind_eq_some_iff.1 hr
  have ehy74 := G_Lmill_Deck_Range_eq hy74
  try simp only [intsR_nil, intsR_cons, intsR_app, intsR_tk, intsR_dr, intsR_st, intsR_rep, List.map_nil, List.map_cons, List.map_append, List.map_take, List.map_drop, List.map_set, List.map_replicate, List.nil_append, List.cons_append, List.append_assoc, eS_I_u8, eapi_Input, eapi_Output, eapi_Entry] at ehy74
  refine ee_seq_reg rfl (by simp [-chunk, -Cell.isSl, -callOp, callOp_eq, hT31, ehy74]; rfl) ?_
  refine ee_seq_block ?_
  refine ee_loop (kq := ⟨[0, 2, 3, 4], [2, 3, 45, 1000000], [(3, some 1, 45, 35)]⟩) (H := fun (s : Int × Tlightclientmill_Deck × (List Tapi_Input)) => match s with | (p26, p27, p28) => (⟨([.ptr 1000000 0 0 0 2] ++ (und 1 ++ ([.ptr 2 0 0 0 4, .ptr 3 0 0 0 4, .one (.v (.int .i64 p26))] ++ (und 61))) : List PV), ([(2, ⟨0, 4, [[.v (.int .u32 0), .slice .nil [], .slice .nil [], .v (.int .u32 0)]], false, false⟩), (3, ⟨0, 4, [[.v (.int .u32 (IntKind.u32.wrap (y72.1))), .ms 45 0 0 (p28.length) 35, .slice .nil [], .v (.int .u32 (IntKind.u32.wrap (y73.1)))]], false, false⟩), (45, ⟨0, 35, List.map eapi_Input p28, false, true⟩), (1000000, ⟨0, 2, [[.slice .no (intsR .i64 p27.1), .v (.int .i64 p27.2)]], false, false⟩)] : Boxes)⟩ : ASt)) (by kernel_rfl) hr (by simp [und, List.replicate, ]) ?_
  rintro ⟨p26, p27, p28⟩ x75r hr75
  simp only [Lmill_Tx_s1] at hr75
  unfold b10_1
  simp only [und, List.replicate, List.cons_append, List.nil_append]
  refine ee_assoc ?_
  refine ee_seq_reg rfl (by simp [-chunk, -Cell.isSl, -callOp, callOp_eq, ]; rfl) ?_
  by_cases c76 : 0 < p26
  · skip
    rw [if_pos] at hr75
    rotate_left
    · simp [c76]
    refine ee_seq_condT (by simp [bV, c76]) ?_
    refine ee_seq_skip ?_
    refine ee_seq_block ?_
    obtain ⟨y77, hy77, hr75⟩ := Option.bind_eq_some_iff.1 hr75
    have ehy77 := G_Lmill_Hash_eq hy77
    try simp only [intsR_nil, intsR_cons, intsR_app, intsR_tk, intsR_dr, intsR_st, intsR_rep, List.map_nil, List.map_cons, List.map_append, List.map_take, List.map_drop, List.map_set, List.map_replicate, List.nil_append, List.cons_append, List.append_assoc, eS_I_u8, eapi_Input, eapi_Output, eapi_Entry] at ehy77
    obtain ⟨y78, hy78, hr75⟩ := Option.bind_eq_some_iff.1 hr75
    have ehy78 := G_Lmill_Deck_Next_eq hy78
    try simp only [intsR_nil, intsR_cons, intsR_app, intsR_tk, intsR_dr, intsR_st, intsR_rep, List.map_nil, List.map_cons, List.map_append, List.map_take, List.map_drop, List.map_set, List.map_replicate, List.nil_append, List.cons_append, List.append_assoc, eS_I_u8, eapi_Input, eapi_Output, eapi_Entry] at ehy78
    obtain ⟨y79, hy79, hr75⟩ := Option.bind_eq_some_iff.1 hr75
    have ehy79 := G_Lmill_Deck_Next_eq hy79
    try simp only [intsR_nil, intsR_cons, intsR_app, intsR_tk, intsR_dr, intsR_st, intsR_rep, List.map_nil, List.map_cons, List.map_append, List.map_take, List.map_drop, List.map_set, List.map_replicate, List.nil_append, List.cons_append, List.append_assoc, eS_I_u8, eapi_Input, eapi_Output, eapi_Entry] at ehy79
    obtain ⟨j80, hj80, hr75⟩ := Option.bind_eq_some_iff.1 hr75
    obtain ⟨j80a, j80b, j80c⟩ := inA_some hj80
    have j80d : j80 ≤ 3 := by omega
    obtain ⟨x81, hx81, hr75⟩ := Option.bind_eq_some_iff.1 hr75
    have ghx81 := getE_of hx81
    have mhx81 : (intsR .u32 ([4294967295, 4294967294, 4294967293, 0]))[j80]? = some [.v (.int .u32 x81)] := by rw [intsR_get, hx81]; rfl
    simp only [intsR_cons, intsR_nil] at mhx81
    have mghx81 := getE_of mhx81
    refine ee_seq_reg rfl (by simp [-chunk, -Cell.isSl, -callOp, callOp_eq, hT32, ehy77, hT17, ehy78, List.range, List.range.loop, ehy79, j80a, j80b, j80c, j80d, hx81, ghx81, mhx81, mghx81, c76]; rfl) ?_
    refine ee_assoc ?_
    obtain ⟨y82, hy82, hr75⟩ := Option.bind_eq_some_iff.1 hr75
    have ehy82 := G_Lmill_Deck_Next_eq hy82
    try simp only [intsR_nil, intsR_cons, intsR_app, intsR_tk, intsR_dr, intsR_st, intsR_rep, List.map_nil, List.map_cons, List.map_append, List.map_take, List.map_drop, List.map_set, List.map_replicate, List.nil_append, List.cons_append, List.append_assoc, eS_I_u8, eapi_Input, eapi_Output, eapi_Entry] at ehy82
    refine ee_seq_reg rfl (by simp [-chunk, -Cell.isSl, -callOp, callOp_eq, hT17, ehy82, c76]; rfl) ?_
    by_cases c83 : y82.1 = 0
    · skip
      rw [if_pos] at hr75
      rotate_left
      · simp [c76, eq_true c83]
      refine ee_seq_condT (by simp [bV, c76, eq_true c83]) ?_
      obtain ⟨y84, hy84, hr75⟩ := Option.bind_eq_some_iff.1 hr75
      have ehy84 := G_Lmill_Deck_Next_eq hy84
      try simp only [intsR_nil, intsR_cons, intsR_app, intsR_tk, intsR_dr, intsR_st, intsR_rep, List.map_nil, List.map_cons, List.map_append, List.map_take, List.map_drop, List.map_set, List.map_replicate, List.nil_append, List.cons_append, List.append_assoc, eS_I_u8, eapi_Input, eapi_Output, eapi_Entry] at ehy84
      refine ee_seq_reg rfl (by simp [-chunk, -Cell.isSl, -callOp, callOp_eq, hT17, ehy84, c76, eq_true c83]; rfl) ?_
      unfold Lmill_Tx_k3 at hr75
      obtain ⟨_, u85, hr75⟩ := Option.bind_eq_some_iff.1 hr75
      have u85_0 := chk_some u85
      have n1_u85_0 : (p28.length + 1) * 64 ≤ 140737488355328 := by omega
      have n2_u85_0 : p28.length + 1 ≤ 9223372036854775807 := by omega
      refine ee_reg rfl (by simp [-chunk, -Cell.isSl, -callOp, callOp_eq, n1_u85_0, n2_u85_0, c76, eq_true c83]; rfl) ?_
      simp only [outOf, thenQ, QL, if_true, ite_true, reduceCtorEq, if_false]
      refine ee_reg rfl (by simp [-chunk, -Cell.isSl, -callOp, callOp_eq, c76, eq_true c83]; rfl) ?_
      obtain rfl := Option.some.inj hr75
      simp only [outOf, thenQ, QL, if_true, ite_true, reduceCtorEq, if_false]
      simp [und, List.replicate, Nat.add_assoc, c76, eq_true c83]
    · skip
      rw [if_neg] at hr75
      rotate_left
      · simp [c76, c83]
      refine ee_seq_condF (by simp [bV, c76, c83]) ?_
      refine ee_seq_skip ?_
      unfold Lmill_Tx_k3 at hr75
      obtain ⟨_, u86, hr75⟩ := Option.bind_eq_some_iff.1 hr75
      have u86_0 := chk_some u86
      have n1_u86_0 : (p28.length + 1) * 64 ≤ 140737488355328 := by omega
      have n2_u86_0 : p28.length + 1 ≤ 9223372036854775807 := by omega
      refine ee_reg rfl (by simp [-chunk, -Cell.isSl, -callOp, callOp_eq, n1_u86_0, n2_u86_0, c76, c83]; rfl) ?_
      simp only [outOf, thenQ, QL, if_true, ite_true, reduceCtorEq, if_false]
      refine ee_reg rfl (by simp [-chunk, -Cell.isSl, -callOp, callOp_eq, c76, c83]; rfl) ?_
      obtain rfl := Option.some.inj hr75
      simp only [outOf, thenQ, QL, if_true, ite_true, reduceCtorEq, if_false]
      simp [und, List.replicate, Nat.add_assoc, c76, c83]
  · skip
    rw [if_neg] at hr75
    rotate_left
    · simp [c76]
    refine ee_seq_condF (by simp [bV, c76]) ?_
    refine ee_seq_exit ?_
    obtain ⟨r87, q87, rfl⟩ := Option.map_eq_some_iff.1 hr75
    simp only [outOf, thenQ, QL, if_true, ite_true, reduceCtorEq, if_false]
    rintro rfl
    try simp only [outOf, thenQ, QL, if_true, ite_true, reduceCtorEq, if_false]
    unfold Lmill_Tx_k1 at q87
    refine ee_assoc ?_
    obtain ⟨y88, hy88, q87⟩ := Option.bind_eq_some_iff.1 q87
    have ehy88 := G_Lmill_Deck_Range_eq hy88
    try simp only [intsR_nil, intsR_cons, intsR_app, intsR_tk, intsR_dr, intsR_st, intsR_rep, List.map_nil, List.map_cons, List.map_append, List.map_take, List.map_drop, List.map_set, List.map_replicate, List.nil_append, List.cons_append, List.append_assoc, eS_I_u8, eapi_Input, eapi_Output, eapi_Entry] at ehy88
    refine ee_seq_reg rfl (by simp [-chunk, -Cell.isSl, -callOp, callOp_eq, hT31, ehy88, c76]; rfl) ?_
    refine ee_seq_block ?_
    refine ee_loop (kq := ⟨[0, 2, 3, 6], [2, 3, 45, 63, 1000000], [(3, some 2, 63, 2)]⟩) (H := fun (s : Int × Tlightclientmill_Deck × (List Tapi_Output)) => match s with | (p50, p51, p52) => (⟨([.ptr 1000000 0 0 0 2] ++ (und 1 ++ ([.ptr 2 0 0 0 4, .ptr 3 0 0 0 4] ++ (und 2 ++ ([.one (.v (.int .i64 p50))] ++ (und 59))))) : List PV), ([(2, ⟨0, 4, [[.v (.int .u32 0), .slice .nil [], .slice .nil [], .v (.int .u32 0)]], false, false⟩), (3, ⟨0, 4, [[.v (.int .u32 (IntKind.u32.wrap (y72.1))), .ms 45 0 0 (p28.length) 35, .ms 63 0 0 (p52.length) 2, .v (.int .u32 (IntKind.u32.wrap (y73.1)))]], false, false⟩), (45, ⟨0, 35, List.map eapi_Input p28, false, true⟩), (63, ⟨0, 2, List.map eapi_Output p52, false, true⟩), (1000000, ⟨0, 2, [[.slice .no (intsR .i64 p51.1), .v (.int .i64 p51.2)]], false, false⟩)] : Boxes)⟩ : ASt)) (by kernel_rfl) q87 (by simp [und, List.replicate, c76]) ?_
    rintro ⟨p50, p51, p52⟩ x89r hr89
    simp only [Lmill_Tx_s2] at hr89
    unfold b10_2
    simp only [und, List.replicate, List.cons_append, List.nil_append]
    refine ee_assoc ?_
    refine ee_seq_reg rfl (by simp [-chunk, -Cell.isSl, -callOp, callOp_eq, c76]; rfl) ?_
    by_cases c90 : 0 < p50
    · skip
      rw [if_pos] at hr89
      rotate_left
      · simp [c76, c90]
      refine ee_seq_condT (by simp [bV, c76, c90]) ?_
      refine ee_seq_skip ?_
      refine ee_seq_block ?_
      obtain ⟨y91, hy91, hr89⟩ := Option.bind_eq_some_iff.1 hr89
      have ehy91 := G_Lmill_Deck_Next_eq hy91
      try simp only [intsR_nil, intsR_cons, intsR_app, intsR_tk, intsR_dr, intsR_st, intsR_rep, List.map_nil, List.map_cons, List.map_append, List.map_take, List.map_drop, List.map_set, List.map_replicate, List.nil_append, List.cons_append, List.append_assoc, eS_I_u8, eapi_Input, eapi_Output, eapi_Entry] at ehy91
      obtain ⟨y92, hy92, hr89⟩ := Option.bind_eq_some_iff.1 hr89
      have ehy92 := G_Lmill_Deck_Next_eq hy92
      try simp only [intsR_nil, intsR_cons, intsR_app, intsR_tk, intsR_dr, intsR_st, intsR_rep, List.map_nil, List.map_cons, List.map_append, List.map_take, List.map_drop, List.map_set, List.map_replicate, List.nil_append, List.cons_append, List.append_assoc, eS_I_u8, eapi_Input, eapi_Output, eapi_Entry] at ehy92
      obtain ⟨y93, hy93, hr89⟩ := Option.bind_eq_some_iff.1 hr89
      have ehy93 := G_Lmade_Script_eq hy93
      try simp only [intsR_nil, intsR_cons, intsR_app, intsR_tk, intsR_dr, intsR_st, intsR_rep, List.map_nil, List.map_cons, List.map_append, List.map_take, List.map_drop, List.map_set, List.map_replicate, List.nil_append, List.cons_append, List.append_assoc, eS_I_u8, eapi_Input, eapi_Output, eapi_Entry] at ehy93
      obtain ⟨_, u94, hr89⟩ := Option.bind_eq_some_iff.1 hr89
      have u94_0 := chk_some u94
      have n1_u94_0 : (p52.length + 1) * 32 ≤ 140737488355328 := by omega
      have n2_u94_0 : p52.length + 1 ≤ 9223372036854775807 := by omega
      refine ee_draw rfl (by simp [-chunk, -Cell.isSl, -callOp, callOp_eq, hT17, ehy91, ehy92, hT23, ehy93, n1_u94_0, n2_u94_0, c76, c90]; first | exact ⟨rfl, rfl⟩ | rfl) (by kernel_rfl) ?_
      simp only [outOf, thenQ, QL, if_true, ite_true, reduceCtorEq, if_false]
      refine ee_reg rfl (by simp [-chunk, -Cell.isSl, -callOp, callOp_eq, c76, c90]; rfl) ?_
      obtain rfl := Option.some.inj hr89
      simp only [outOf, thenQ, QL, if_true, ite_true, reduceCtorEq, if_false]
      simp [und, List.replicate, Nat.add_assoc, c76, c90]
    · skip
      rw [if_neg] at hr89
      rotate_left
      · simp [c76, c90]
      refine ee_seq_condF (by simp [bV, c76, c90]) ?_
      refine ee_seq_exit ?_
      obtain ⟨r95, q95, rfl⟩ := Option.map_eq_some_iff.1 hr89
      simp only [outOf, thenQ, QL, if_true, ite_true, reduceCtorEq, if_false]
      rintro rfl
      try simp only [outOf, thenQ, QL, if_true, ite_true, reduceCtorEq, if_false]
      unfold Lmill_Tx_k2 at q95
      refine ee_seq_reg rfl (by simp [-chunk, -Cell.isSl, -callOp, callOp_eq, c76, c90]; rfl) ?_
      refine ee_ret ?_
      obtain rfl := Option.some.inj q95
      simp [FinQ, -chunk, -Cell.isSl, -callOp, callOp_eq, c76, c90]
def kp12 : Keep := fun i => if i = 2 then ⟨[1, 3], [1], []⟩ else ⟨[], [], []⟩
theorem w12 {T : Tab} (a0 : Tapi_Tx) (x : Bool) (hr : Lref36_Signals a0 = some x) : ∃ kp fl n, execFn tt T G kp fl n Tryd.f12 [.agg ([.v (.int .u32 a0.1), .slice .no (List.map eapi_Input a0.2.1), .slice .no (List.map eapi_Output a0.2.2.1), .v (.int .u32 a0.2.2.2)])] = some (.one (.v (.bool x)), []) := by
  refine fnE (kp := kp12) (w := false) body12 ?_
  unfold c12
  rw [Tryd.ntmps12]
  unfold Lref36_Signals at hr
  refine ee_seq_reg rfl (by simp [-chunk, -Cell.isSl, -callOp, callOp_eq, ]; rfl) ?_
  refine ee_assoc ?_
  refine ee_seq_reg rfl (by simp [-chunk, -Cell.isSl, -callOp, callOp_eq, ]; rfl) ?_
  refine ee_seq_block ?_
  refine ee_loop (kq := ⟨[1, 3], [1], []⟩) (H := fun (s : Int) => match s with | p4 => (⟨(und 1 ++ ([.ptr 1 0 0 0 4] ++ (und 1 ++ ([.one (.v (.int .i64 p4))] ++ (und 14)))) : List PV), ([(1, ⟨0, 4, [[.v (.int .u32 a0.1), .slice .no (List.map eapi_Input a0.2.1), .slice .no (List.map eapi_Output a0.2.2.1), .v (.int .u32 a0.2.2.2)]], false, false⟩)] : Boxes)⟩ : ASt)) (by kernel_rfl) hr (by simp [und, List.replicate, ]) ?_
  rintro p4 x7r hr7
  simp only [Lref36_Signals_s1] at hr7
  unfold b12_1
  simp only [und, List.replicate, List.cons_append, List.nil_append]
  refine ee_assoc ?_
  refine ee_seq_reg rfl (by simp [-chunk, -Cell.isSl, -callOp, callOp_eq, ]; rfl) ?_
  by_cases c8 : p4 < (a0.2.1.length : Int)
  · skip
    have c8N := c8
    try simp at c8N
    rw [if_pos] at hr7
    rotate_left
    · simp [c8, c8N]
    refine ee_seq_condT (by simp [bV, c8, c8N]) ?_
    refine ee_seq_skip ?_
    refine ee_seq_block ?_
    obtain ⟨x9, hx9, hr7⟩ := Option.bind_eq_some_iff.1 hr7
    obtain ⟨hx9a, hx9b⟩ := idx_some hx9
    have hx9c := getE_of hx9b
    refine ee_seq_reg rfl (by simp [-chunk, -Cell.isSl, -callOp, callOp_eq, hx9a, hx9b, hx9c, c8, c8N]; rfl) ?_
    by_cases c10 : x9.2.1 < 4294967294
    · skip
      rw [if_pos] at hr7
      rotate_left
      · simp [c8, c8N, c10]
      refine ee_condT (by simp [bV, c8, c8N, c10]) ?_
      refine ee_seq_reg rfl (by simp [-chunk, -Cell.isSl, -callOp, callOp_eq, c8, c8N, c10]; rfl) ?_
      refine ee_ret ?_
      obtain rfl := Option.some.inj hr7
      simp only [outOf, thenQ, QL, if_true, ite_true, reduceCtorEq, if_false]
      rintro rfl
      simp [FinQ, -chunk, -Cell.isSl, -callOp, callOp_eq, c8, c8N, c10]
    · skip
      rw [if_neg] at hr7
      rotate_left
      · simp [c8, c8N, c10]
      refine ee_condF (by simp [bV, c8, c8N, c10]) ?_
      refine ee_skip ?_
      simp only [outOf, thenQ, QL, if_true, ite_true, reduceCtorEq, if_false]
      refine ee_reg rfl (by simp [-chunk, -Cell.isSl, -callOp, callOp_eq, c8, c8N, c10]; rfl) ?_
      obtain rfl := Option.some.inj hr7
      simp only [outOf, thenQ, QL, if_true, ite_true, reduceCtorEq, if_false]
      simp [und, List.replicate, Nat.add_assoc, c8, c8N, c10]
  · skip
    have c8N := c8
    try simp at c8N
    rw [if_neg] at hr7
    rotate_left
    · simp [c8, c8N]
    refine ee_seq_condF (by simp [bV, c8, c8N]) ?_
    refine ee_seq_exit ?_
    obtain ⟨r11, q11, rfl⟩ := Option.map_eq_some_iff.1 hr7
    simp only [outOf, thenQ, QL, if_true, ite_true, reduceCtorEq, if_false]
    rintro rfl
    try simp only [outOf, thenQ, QL, if_true, ite_true, reduceCtorEq, if_false]
    unfold Lref36_Signals_k1 at q11
    refine ee_seq_reg rfl (by simp [-chunk, -Cell.isSl, -callOp, callOp_eq, c8, c8N]; rfl) ?_
    refine ee_ret ?_
    obtain rfl := Option.some.inj q11
    simp [FinQ, -chunk, -Cell.isSl, -callOp, callOp_eq, c8, c8N]
def kp14 : Keep := fun i => if i = 2 then ⟨[2, 3, 5], [2, 3], []⟩ else if i = 5 then ⟨[2, 3, 5, 6], [2, 3], []⟩ else ⟨[], [], []⟩
theorem w14 {T : Tab} (a0 : Tapi_Tx) (a1 : Tapi_Tx) (x : Bool) (hr : Lref36_Conflict a0 a1 = some x) : ∃ kp fl n, execFn tt T G kp fl n Tryd.f14 [.agg ([.v (.int .u32 a0.1), .slice .no (List.map eapi_Input a0.2.1), .slice .no (List.map eapi_Output a0.2.2.1), .v (.int .u32 a0.2.2.2)]), .agg ([.v (.int .u32 a1.1), .slice .no (List.map eapi_Input a1.2.1), .slice .no (List.map eapi_Output a1.2.2.1), .v (.int .u32 a1.2.2.2)])] = some (.one (.v (.bool x)), []) := by
  refine fnE (kp := kp14) (w := false) body14 ?_
  unfold c14
  rw [Tryd.ntmps14]
  unfold Lref36_Conflict at hr
  refine ee_seq_reg rfl (by simp [-chunk, -Cell.isSl, -callOp, callOp_eq, ]; rfl) ?_
  refine ee_assoc ?_
  refine ee_seq_reg rfl (by simp [-chunk, -Cell.isSl, -callOp, callOp_eq, ]; rfl) ?_
  refine ee_seq_block ?_
  refine ee_loop (kq := ⟨[2, 3, 5], [2, 3], []⟩) (H := fun (s : Int) => match s with | p18 => (⟨(und 2 ++ ([.ptr 2 0 0 0 4, .ptr 3 0 0 0 4] ++ (und 1 ++ ([.one (.v (.int .i64 p18))] ++ (und 28)))) : List PV), ([(2, ⟨0, 4, [[.v (.int .u32 a0.1), .slice .no (List.map eapi_Input a0.2.1), .slice .no (List.map eapi_Output a0.2.2.1), .v (.int .u32 a0.2.2.2)]], false, false⟩), (3, ⟨0, 4, [[.v (.int .u32 a1.1), .slice .no (List.map eapi_Input a1.2.1), .slice .no (List.map eapi_Output a1.2.2.1), .v (.int .u32 a1.2.2.2)]], false, false⟩)] : Boxes)⟩ : ASt)) (by kernel_rfl) hr (by simp [und, List.replicate, ]) ?_
  rintro p18 x37r hr37
  simp only [Lref36_Conflict_s1] at hr37
  unfold b14_1
  simp only [und, List.replicate, List.cons_append, List.nil_append]
  refine ee_assoc ?_
  refine ee_seq_reg rfl (by simp [-chunk, -Cell.isSl, -callOp, callOp_eq, ]; rfl) ?_
  by_cases c38 : p18 < (a0.2.1.length : Int)
  · skip
    have c38N := c38
    try simp at c38N
    rw [if_pos] at hr37
    rotate_left
    · simp [c38, c38N]
    refine ee_seq_condT (by simp [bV, c38, c38N]) ?_
    refine ee_seq_skip ?_
    refine ee_seq_block ?_
    refine ee_seq_reg rfl (by simp [-chunk, -Cell.isSl, -callOp, callOp_eq, c38, c38N]; rfl) ?_
    refine ee_block ?_
    refine ee_loop (kq := ⟨[2, 3, 5, 6], [2, 3], []⟩) (H := fun (s : Int) => match s with | p32 => (⟨(und 2 ++ ([.ptr 2 0 0 0 4, .ptr 3 0 0 0 4] ++ (und 1 ++ ([.one (.v (.int .i64 p18)), .one (.v (.int .i64 p32))] ++ (und 27)))) : List PV), ([(2, ⟨0, 4, [[.v (.int .u32 a0.1), .slice .no (List.map eapi_Input a0.2.1), .slice .no (List.map eapi_Output a0.2.2.1), .v (.int .u32 a0.2.2.2)]], false, false⟩), (3, ⟨0, 4, [[.v (.int .u32 a1.1), .slice .no (List.map eapi_Input a1.2.1), .slice .no (List.map eapi_Output a1.2.2.1), .v (.int .u32 a1.2.2.2)]], false, false⟩)] : Boxes)⟩ : ASt)) (by kernel_rfl) hr37 (by simp [und, List.replicate, c38, c38N]) ?_
    rintro p32 x39r hr39
    simp only [Lref36_Conflict_s2] at hr39
    unfold b14_2
    simp only [und, List.replicate, List.cons_append, List.nil_append]
    refine ee_assoc ?_
    refine ee_seq_reg rfl (by simp [-chunk, -Cell.isSl, -callOp, callOp_eq, c38, c38N]; rfl) ?_
    by_cases c40 : p32 < (a1.2.1.length : Int)
    · skip
      have c40N := c40
      try simp at c40N
      rw [if_pos] at hr39
      rotate_left
      · simp [c38, c38N, c40, c40N]
      refine ee_seq_condT (by simp [bV, c38, c38N, c40, c40N]) ?_
      refine ee_seq_skip ?_
      refine ee_seq_block ?_
      obtain ⟨x41, hx41, hr39⟩ := Option.bind_eq_some_iff.1 hr39
      obtain ⟨hx41a, hx41b⟩ := idx_some hx41
      have hx41c := getE_of hx41b
      obtain ⟨x42, hx42, hr39⟩ := Option.bind_eq_some_iff.1 hr39
      obtain ⟨hx42a, hx42b⟩ := idx_some hx42
      have hx42c := getE_of hx42b
      refine ee_seq_draw rfl (by simp [-chunk, -Cell.isSl, -callOp, callOp_eq, hx41a, hx41b, hx41c, hx42a, hx42b, hx42c, c38, c38N, c40, c40N]; first | exact ⟨rfl, rfl⟩ | rfl) (by kernel_rfl) ?_
      by_cases c43 : x41.1.1 = x42.1.1
      · skip
        by_cases c44 : x41.1.2 = x42.1.2
        · skip
          rw [if_pos] at hr39
          rotate_left
          · simp [c38, c38N, c40, c40N, eq_true c43, eq_true c44]
          refine ee_condT (by simp [bV, c38, c38N, c40, c40N, eq_true c43, eq_true c44]) ?_
          refine ee_seq_reg rfl (by simp [-chunk, -Cell.isSl, -callOp, callOp_eq, c38, c38N, c40, c40N, eq_true c43, eq_true c44]; rfl) ?_
          refine ee_ret ?_
          obtain rfl := Option.some.inj hr39
          simp only [outOf, thenQ, QL, if_true, ite_true, reduceCtorEq, if_false]
          rintro rfl
          simp only [outOf, thenQ, QL, if_true, ite_true, reduceCtorEq, if_false]
          rintro rfl
          simp [FinQ, -chunk, -Cell.isSl, -callOp, callOp_eq, c38, c38N, c40, c40N, eq_true c43, eq_true c44]
        · skip
          rw [if_neg] at hr39
          rotate_left
          · simp [c38, c38N, c40, c40N, eq_true c43, c44]
          refine ee_condF (by simp [bV, c38, c38N, c40, c40N, eq_true c43, c44]) ?_
          refine ee_skip ?_
          simp only [outOf, thenQ, QL, if_true, ite_true, reduceCtorEq, if_false]
          refine ee_reg rfl (by simp [-chunk, -Cell.isSl, -callOp, callOp_eq, c38, c38N, c40, c40N, eq_true c43, c44]; rfl) ?_
          obtain rfl := Option.some.inj hr39
          simp only [outOf, thenQ, QL, if_true, ite_true, reduceCtorEq, if_false]
          simp [und, List.replicate, Nat.add_assoc, c38, c38N, c40, c40N, eq_true c43, c44]
      · skip
        rw [if_neg] at hr39
        rotate_left
        · simp [c38, c38N, c40, c40N, c43]
        refine ee_condF (by simp [bV, c38, c38N, c40, c40N, c43]) ?_
        refine ee_skip ?_
        simp only [outOf, thenQ, QL, if_true, ite_true, reduceCtorEq, if_false]
        refine ee_reg rfl (by simp [-chunk, -Cell.isSl, -callOp, callOp_eq, c38, c38N, c40, c40N, c43]; rfl) ?_
        obtain rfl := Option.some.inj hr39
        simp only [outOf, thenQ, QL, if_true, ite_true, reduceCtorEq, if_false]
        simp [und, List.replicate, Nat.add_assoc, c38, c38N, c40, c40N, c43]
    · skip
      have c40N := c40
      try simp at c40N
      rw [if_neg] at hr39
      rotate_left
      · simp [c38, c38N, c40, c40N]
      refine ee_seq_condF (by simp [bV, c38, c38N, c40, c40N]) ?_
      refine ee_seq_exit ?_
      obtain ⟨r45, q45, rfl⟩ := Option.map_eq_some_iff.1 hr39
      simp only [outOf, thenQ, QL, if_true, ite_true, reduceCtorEq, if_false]
      rintro rfl
      try simp only [outOf, thenQ, QL, if_true, ite_true, reduceCtorEq, if_false]
      unfold Lref36_Conflict_k2 at q45
      refine ee_reg rfl (by simp [-chunk, -Cell.isSl, -callOp, callOp_eq, c38, c38N, c40, c40N]; rfl) ?_
      obtain rfl := Option.some.inj q45
      simp only [outOf, thenQ, QL, if_true, ite_true, reduceCtorEq, if_false]
      simp [und, List.replicate, Nat.add_assoc, c38, c38N, c40, c40N]
  · skip
    have c38N := c38
    try simp at c38N
    rw [if_neg] at hr37
    rotate_left
    · simp [c38, c38N]
    refine ee_seq_condF (by simp [bV, c38, c38N]) ?_
    refine ee_seq_exit ?_
    obtain ⟨r46, q46, rfl⟩ := Option.map_eq_some_iff.1 hr37
    simp only [outOf, thenQ, QL, if_true, ite_true, reduceCtorEq, if_false]
    rintro rfl
    try simp only [outOf, thenQ, QL, if_true, ite_true, reduceCtorEq, if_false]
    unfold Lref36_Conflict_k1 at q46
    refine ee_seq_reg rfl (by simp [-chunk, -Cell.isSl, -callOp, callOp_eq, c38, c38N]; rfl) ?_
    refine ee_ret ?_
    obtain rfl := Option.some.inj q46
    simp [FinQ, -chunk, -Cell.isSl, -callOp, callOp_eq, c38, c38N]
def kp3 : Keep := fun i => ⟨[], [], []⟩
theorem w3 {T : Tab} (hT8 : T 8 = some G_Llaw36_sane) (hT9 : T 9 = some G_Lmill_New) (hT10 : T 10 = some G_Lmill_Tx) (hT11 : T 11 = some G_Lreplace_Signals) (hT12 : T 12 = some G_Lref36_Signals) (hT13 : T 13 = some G_Lreplace_Conflict) (hT14 : T 14 = some G_Lref36_Conflict) (a0 : (List Int)) (a1 : Int) (a2 : Int) (x : Bool) (hr : Llaw36_ReplaceSignals a0 a1 a2 = some x) : ∃ kp fl n, execFn tt T G kp fl n Tryd.f3 [.one (.slice .no (intsR .i64 a0)), .one (.v (.int .u32 a1)), .one (.v (.int .u32 a2))] = some (.one (.v (.bool x)), []) := by
  refine fnE (kp := kp3) (w := false) body3 ?_
  unfold c3
  rw [Tryd.ntmps3]
  unfold Llaw36_ReplaceSignals at hr
  refine ee_seq_reg rfl (by simp [-chunk, -Cell.isSl, -callOp, callOp_eq, ]; rfl) ?_
  refine ee_assoc ?_
  obtain ⟨y19, hy19, hr⟩ := Option.bind_eq_some_iff.1 hr
  have ehy19 := G_Llaw36_sane_eq hy19
  try simp only [intsR_nil, intsR_cons, intsR_app, intsR_tk, intsR_dr, intsR_st, intsR_rep, List.map_nil, List.map_cons, List.map_append, List.map_take, List.map_drop, List.map_set, List.map_replicate, List.nil_append, List.cons_append, List.append_assoc, eS_I_u8, eapi_Input, eapi_Output, eapi_Entry] at ehy19
  refine ee_seq_reg rfl (by simp [-chunk, -Cell.isSl, -callOp, callOp_eq, hT8, ehy19]; rfl) ?_
  by_cases c20 : y19 = true
  · skip
    rw [if_neg] at hr
    rotate_left
    · simp [c20]
    refine ee_seq_condF (by simp [bV, c20]) ?_
    refine ee_seq_skip ?_
    obtain ⟨y21, hy21, hr⟩ := Option.bind_eq_some_iff.1 hr
    have ehy21 := G_Lmill_New_eq hy21
    try simp only [intsR_nil, intsR_cons, intsR_app, intsR_tk, intsR_dr, intsR_st, intsR_rep, List.map_nil, List.map_cons, List.map_append, List.map_take, List.map_drop, List.map_set, List.map_replicate, List.nil_append, List.cons_append, List.append_assoc, eS_I_u8, eapi_Input, eapi_Output, eapi_Entry] at ehy21
    refine ee_seq_reg rfl (by simp [-chunk, -Cell.isSl, -callOp, callOp_eq, hT9, ehy21, c20]; rfl) ?_
    obtain ⟨y22, hy22, hr⟩ := Option.bind_eq_some_iff.1 hr
    have ehy22 := G_Lmill_Tx_eq hy22
    try simp only [intsR_nil, intsR_cons, intsR_app, intsR_tk, intsR_dr, intsR_st, intsR_rep, List.map_nil, List.map_cons, List.map_append, List.map_take, List.map_drop, List.map_set, List.map_replicate, List.nil_append, List.cons_append, List.append_assoc, eS_I_u8, eapi_Input, eapi_Output, eapi_Entry] at ehy22
    obtain ⟨y23, hy23, hr⟩ := Option.bind_eq_some_iff.1 hr
    have ehy23 := G_Lmill_Tx_eq hy23
    try simp only [intsR_nil, intsR_cons, intsR_app, intsR_tk, intsR_dr, intsR_st, intsR_rep, List.map_nil, List.map_cons, List.map_append, List.map_take, List.map_drop, List.map_set, List.map_replicate, List.nil_append, List.cons_append, List.append_assoc, eS_I_u8, eapi_Input, eapi_Output, eapi_Entry] at ehy23
    refine ee_seq_reg rfl (by simp [-chunk, -Cell.isSl, -callOp, callOp_eq, hT10, ehy22, ehy23, c20]; rfl) ?_
    refine ee_seq_reg rfl (by simp [-chunk, -Cell.isSl, -callOp, callOp_eq, List.range, List.range.loop, c20]; rfl) ?_
    obtain ⟨y24, hy24, hr⟩ := Option.bind_eq_some_iff.1 hr
    have ehy24 := G_Lreplace_Signals_eq hy24
    try simp only [intsR_nil, intsR_cons, intsR_app, intsR_tk, intsR_dr, intsR_st, intsR_rep, List.map_nil, List.map_cons, List.map_append, List.map_take, List.map_drop, List.map_set, List.map_replicate, List.nil_append, List.cons_append, List.append_assoc, eS_I_u8, eapi_Input, eapi_Output, eapi_Entry] at ehy24
    obtain ⟨y25, hy25, hr⟩ := Option.bind_eq_some_iff.1 hr
    have ehy25 := G_Lref36_Signals_eq hy25
    try simp only [intsR_nil, intsR_cons, intsR_app, intsR_tk, intsR_dr, intsR_st, intsR_rep, List.map_nil, List.map_cons, List.map_append, List.map_take, List.map_drop, List.map_set, List.map_replicate, List.nil_append, List.cons_append, List.append_assoc, eS_I_u8, eapi_Input, eapi_Output, eapi_Entry] at ehy25
    by_cases c26 : (y24 == y25) = true
    · skip
      rw [if_pos] at hr
      rotate_left
      · simp [c20, c26]
      obtain ⟨z27, hz27, hr⟩ := Option.bind_eq_some_iff.1 hr
      obtain ⟨y28, hy28, hz27⟩ := Option.bind_eq_some_iff.1 hz27
      have ehy28 := G_Lreplace_Signals_eq hy28
      try simp only [intsR_nil, intsR_cons, intsR_app, intsR_tk, intsR_dr, intsR_st, intsR_rep, List.map_nil, List.map_cons, List.map_append, List.map_take, List.map_drop, List.map_set, List.map_replicate, List.nil_append, List.cons_append, List.append_assoc, eS_I_u8, eapi_Input, eapi_Output, eapi_Entry] at ehy28
      obtain ⟨y29, hy29, hz27⟩ := Option.bind_eq_some_iff.1 hz27
      have ehy29 := G_Lref36_Signals_eq hy29
      try simp only [intsR_nil, intsR_cons, intsR_app, intsR_tk, intsR_dr, intsR_st, intsR_rep, List.map_nil, List.map_cons, List.map_append, List.map_take, List.map_drop, List.map_set, List.map_replicate, List.nil_append, List.cons_append, List.append_assoc, eS_I_u8, eapi_Input, eapi_Output, eapi_Entry] at ehy29
      obtain rfl := Option.some.inj hz27
      by_cases c30 : (y28 == y29) = true
      · skip
        rw [if_pos] at hr
        rotate_left
        · simp [c20, c26, c30]
        obtain ⟨z31, hz31, hr⟩ := Option.bind_eq_some_iff.1 hr
        obtain ⟨y32, hy32, hz31⟩ := Option.bind_eq_some_iff.1 hz31
        have ehy32 := G_Lreplace_Conflict_eq hy32
        try simp only [intsR_nil, intsR_cons, intsR_app, intsR_tk, intsR_dr, intsR_st, intsR_rep, List.map_nil, List.map_cons, List.map_append, List.map_take, List.map_drop, List.map_set, List.map_replicate, List.nil_append, List.cons_append, List.append_assoc, eS_I_u8, eapi_Input, eapi_Output, eapi_Entry] at ehy32
        obtain ⟨y33, hy33, hz31⟩ := Option.bind_eq_some_iff.1 hz31
        have ehy33 := G_Lref36_Conflict_eq hy33
        try simp only [intsR_nil, intsR_cons, intsR_app, intsR_tk, intsR_dr, intsR_st, intsR_rep, List.map_nil, List.map_cons, List.map_append, List.map_take, List.map_drop, List.map_set, List.map_replicate, List.nil_append, List.cons_append, List.append_assoc, eS_I_u8, eapi_Input, eapi_Output, eapi_Entry] at ehy33
        obtain rfl := Option.some.inj hz31
        by_cases c34 : (y32 == y33) = true
        · skip
          rw [if_pos] at hr
          rotate_left
          · simp [c20, c26, c30, c34]
          obtain ⟨z35, hz35, hr⟩ := Option.bind_eq_some_iff.1 hr
          obtain ⟨y36, hy36, hz35⟩ := Option.bind_eq_some_iff.1 hz35
          have ehy36 := G_Lreplace_Conflict_eq hy36
          try simp only [intsR_nil, intsR_cons, intsR_app, intsR_tk, intsR_dr, intsR_st, intsR_rep, List.map_nil, List.map_cons, List.map_append, List.map_take, List.map_drop, List.map_set, List.map_replicate, List.nil_append, List.cons_append, List.append_assoc, eS_I_u8, eapi_Input, eapi_Output, eapi_Entry] at ehy36
          obtain ⟨y37, hy37, hz35⟩ := Option.bind_eq_some_iff.1 hz35
          have ehy37 := G_Lref36_Conflict_eq hy37
          try simp only [intsR_nil, intsR_cons, intsR_app, intsR_tk, intsR_dr, intsR_st, intsR_rep, List.map_nil, List.map_cons, List.map_append, List.map_take, List.map_drop, List.map_set, List.map_replicate, List.nil_append, List.cons_append, List.append_assoc, eS_I_u8, eapi_Input, eapi_Output, eapi_Entry] at ehy37
          obtain rfl := Option.some.inj hz35
          by_cases c38 : (y36 == y37) = true
          · skip
            rw [if_pos] at hr
            rotate_left
            · simp [c20, c26, c30, c34, c38]
            obtain ⟨z39, hz39, hr⟩ := Option.bind_eq_some_iff.1 hr
            obtain ⟨y40, hy40, hz39⟩ := Option.bind_eq_some_iff.1 hz39
            have ehy40 := G_Lreplace_Conflict_eq hy40
            try simp only [intsR_nil, intsR_cons, intsR_app, intsR_tk, intsR_dr, intsR_st, intsR_rep, List.map_nil, List.map_cons, List.map_append, List.map_take, List.map_drop, List.map_set, List.map_replicate, List.nil_append, List.cons_append, List.append_assoc, eS_I_u8, eapi_Input, eapi_Output, eapi_Entry] at ehy40
            obtain ⟨y41, hy41, hz39⟩ := Option.bind_eq_some_iff.1 hz39
            have ehy41 := G_Lref36_Conflict_eq hy41
            try simp only [intsR_nil, intsR_cons, intsR_app, intsR_tk, intsR_dr, intsR_st, intsR_rep, List.map_nil, List.map_cons, List.map_append, List.map_take, List.map_drop, List.map_set, List.map_replicate, List.nil_append, List.cons_append, List.append_assoc, eS_I_u8, eapi_Input, eapi_Output, eapi_Entry] at ehy41
            obtain rfl := Option.some.inj hz39
            refine ee_seq_draw rfl (by simp [-chunk, -Cell.isSl, -callOp, callOp_eq, hT11, ehy24, hT12, ehy25, ehy28, ehy29, hT13, ehy32, hT14, ehy33, ehy36, ehy37, ehy40, ehy41, c20, c26, c30, c34, c38]; first | exact ⟨rfl, rfl⟩ | rfl) (by kernel_rfl) ?_
            refine ee_ret ?_
            obtain rfl := Option.some.inj hr
            simp [FinQ, -chunk, -Cell.isSl, -callOp, callOp_eq, hT11, ehy24, hT12, ehy25, ehy28, ehy29, hT13, ehy32, hT14, ehy33, ehy36, ehy37, ehy40, ehy41, c20, c26, c30, c34, c38]
          · skip
            rw [if_neg] at hr
            rotate_left
            · simp [c20, c26, c30, c34, c38]
            obtain ⟨z42, hz42, hr⟩ := Option.bind_eq_some_iff.1 hr
            obtain rfl := Option.some.inj hz42
            refine ee_seq_draw rfl (by simp [-chunk, -Cell.isSl, -callOp, callOp_eq, hT11, ehy24, hT12, ehy25, ehy28, ehy29, hT13, ehy32, hT14, ehy33, ehy36, ehy37, c20, c26, c30, c34, c38]; first | exact ⟨rfl, rfl⟩ | rfl) (by kernel_rfl) ?_
            refine ee_ret ?_
            obtain rfl := Option.some.inj hr
            simp [FinQ, -chunk, -Cell.isSl, -callOp, callOp_eq, hT11, ehy24, hT12, ehy25, ehy28, ehy29, hT13, ehy32, hT14, ehy33, ehy36, ehy37, c20, c26, c30, c34, c38]
        · skip
          rw [if_neg] at hr
          rotate_left
          · simp [c20, c26, c30, c34]
          obtain ⟨z43, hz43, hr⟩ := Option.bind_eq_some_iff.1 hr
          obtain rfl := Option.some.inj hz43
          rw [if_neg] at hr
          rotate_left
          · simp [c20, c26, c30, c34]
          obtain ⟨z44, hz44, hr⟩ := Option.bind_eq_some_iff.1 hr
          obtain rfl := Option.some.inj hz44
          refine ee_seq_draw rfl (by simp [-chunk, -Cell.isSl, -callOp, callOp_eq, hT11, ehy24, hT12, ehy25, ehy28, ehy29, hT13, ehy32, hT14, ehy33, c20, c26, c30, c34]; first | exact ⟨rfl, rfl⟩ | rfl) (by kernel_rfl) ?_
          refine ee_ret ?_
          obtain rfl := Option.some.inj hr
          simp [FinQ, -chunk, -Cell.isSl, -callOp, callOp_eq, hT11, ehy24, hT12, ehy25, ehy28, ehy29, hT13, ehy32, hT14, ehy33, c20, c26, c30, c34]
      · skip
        rw [if_neg] at hr
        rotate_left
        · simp [c20, c26, c30]
        obtain ⟨z45, hz45, hr⟩ := Option.bind_eq_some_iff.1 hr
        obtain rfl := Option.some.inj hz45
        rw [if_neg] at hr
        rotate_left
        · simp [c20, c26, c30]
        obtain ⟨z46, hz46, hr⟩ := Option.bind_eq_some_iff.1 hr
        obtain rfl := Option.some.inj hz46
        rw [if_neg] at hr
        rotate_left
        · simp [c20, c26, c30]
        obtain ⟨z47, hz47, hr⟩ := Option.bind_eq_some_iff.1 hr
        obtain rfl := Option.some.inj hz47
        refine ee_seq_draw rfl (by simp [-chunk, -Cell.isSl, -callOp, callOp_eq, hT11, ehy24, hT12, ehy25, ehy28, ehy29, c20, c26, c30]; first | exact ⟨rfl, rfl⟩ | rfl) (by kernel_rfl) ?_
        refine ee_ret ?_
        obtain rfl := Option.some.inj hr
        simp [FinQ, -chunk, -Cell.isSl, -callOp, callOp_eq, hT11, ehy24, hT12, ehy25, ehy28, ehy29, c20, c26, c30]
    · skip
      rw [if_neg] at hr
      rotate_left
      · simp [c20, c26]
      obtain ⟨z48, hz48, hr⟩ := Option.bind_eq_some_iff.1 hr
      obtain rfl := Option.some.inj hz48
      rw [if_neg] at hr
      rotate_left
      · simp [c20, c26]
      obtain ⟨z49, hz49, hr⟩ := Option.bind_eq_some_iff.1 hr
      obtain rfl := Option.some.inj hz49
      rw [if_neg] at hr
      rotate_left
      · simp [c20, c26]
      obtain ⟨z50, hz50, hr⟩ := Option.bind_eq_some_iff.1 hr
      obtain rfl := Option.some.inj hz50
      rw [if_neg] at hr
      rotate_left
      · simp [c20, c26]
      obtain ⟨z51, hz51, hr⟩ := Option.bind_eq_some_iff.1 hr
      obtain rfl := Option.some.inj hz51
      refine ee_seq_draw rfl (by simp [-chunk, -Cell.isSl, -callOp, callOp_eq, hT11, ehy24, hT12, ehy25, c20, c26]; first | exact ⟨rfl, rfl⟩ | rfl) (by kernel_rfl) ?_
      refine ee_ret ?_
      obtain rfl := Option.some.inj hr
      simp [FinQ, -chunk, -Cell.isSl, -callOp, callOp_eq, hT11, ehy24, hT12, ehy25, c20, c26]
  · skip
    rw [if_pos] at hr
    rotate_left
    · simp [c20]
    refine ee_seq_condT (by simp [bV, c20]) ?_
    refine ee_assoc ?_
    refine ee_seq_reg rfl (by simp [-chunk, -Cell.isSl, -callOp, callOp_eq, c20]; rfl) ?_
    refine ee_seq_ret ?_
    obtain rfl := Option.some.inj hr
    simp [FinQ, -chunk, -Cell.isSl, -callOp, callOp_eq, c20]
end Go.Proofs.YtconfbgcjkjnkaaDoor
