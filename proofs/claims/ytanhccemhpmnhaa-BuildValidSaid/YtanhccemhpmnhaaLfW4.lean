import Derived.Test.YtanhccemhpmnhaaLfK
import Derived.Test.YtanhccemhpmnhaaCode
namespace Go.Proofs.Ytanhccemhpmnhaa
open Go.RowKit
open Go.Av
open Go.Lc
set_option maxRecDepth 100000
set_option linter.unusedSimpArgs false
set_option linter.unusedVariables false
variable {G : Glob}
def kp15 : Keep := fun i => if i = 3 then ⟨[1, 2, 15, 16], [2, 11], []⟩ else if i = 9 then ⟨[6, 27, 28, 29], [], []⟩ else ⟨[], [], []⟩
theorem w15 {T : Tab} (hT31 : T 31 = some G_Lslices_Clone_of__api_Input_api_Input) (hT32 : T 32 = some G_Ltx_Weight) (a0 : Tapi_Tx) (a1 : (List Tapi_Spendable)) (x : Int) (hr : Lbuild_Weight a0 a1 = some x) : ∃ kp fl n, execFn tt T G kp fl n Try.f15 [.agg ([.v (.int .u32 a0.1), .slice .no (List.map eapi_Input a0.2.1), .slice .no (List.map eapi_Output a0.2.2.1), .v (.int .u32 a0.2.2.2)]), .one (.slice .no (List.map eapi_Spendable a1))] = some (.one (.v (.int .i64 x)), []) := by
  refine fnE (kp := kp15) (w := false) body15 ?_
  unfold c15
  rw [Try.ntmps15]
  unfold Lbuild_Weight at hr
  refine ee_seq_reg rfl (by simp [-chunk, -Cell.isSl, -callOp, callOp_eq, ]; rfl) ?_
  obtain ⟨y23, hy23, hr⟩ := Option.bind_eq_some_iff.1 hr
  have ehy23 := G_Lslices_Clone_of__api_Input_api_Input_eq hy23
  try simp only [intsR_nil, intsR_cons, intsR_app, intsR_tk, intsR_dr, intsR_st, intsR_rep, List.map_nil, List.map_cons, List.map_append, List.map_take, List.map_drop, List.map_set, List.map_replicate, List.nil_append, List.cons_append, List.append_assoc, eapi_Input, eapi_Output, eapi_Spendable, eS_I_u8] at ehy23
  refine ee_seq_reg rfl (by simp [-chunk, -Cell.isSl, -callOp, callOp_eq, hT31, ehy23]; rfl) ?_
  refine ee_assoc ?_
  refine ee_seq_reg rfl (by simp [-chunk, -Cell.isSl, -callOp, callOp_eq, ]; rfl) ?_
  refine ee_seq_block ?_
  refine ee_loop (kq := ⟨[1, 2, 15, 16], [2, 11], []⟩) (H := fun (s : Int × (List Tapi_Input)) => match s with | (p8, p9) => (⟨(und 1 ++ ([.one (.slice .no (List.map eapi_Spendable a1)), .ptr 2 0 0 0 4] ++ (und 12 ++ ([.one (.v (.int .i64 (y23.length : Int))), .one (.v (.int .i64 p8))] ++ (und 22)))) : List PV), ([(2, ⟨0, 4, [[.v (.int .u32 a0.1), .ms 11 0 0 (p9.length) 35, .slice .no (List.map eapi_Output a0.2.2.1), .v (.int .u32 a0.2.2.2)]], false, false⟩), (11, ⟨0, 35, List.map eapi_Input p9, false, true⟩)] : Boxes)⟩ : ASt)) (by kernel_rfl) hr (by simp [und, List.replicate, ]) ?_
  rintro ⟨p8, p9⟩ x24r hr24
  simp only [Lbuild_Weight_s1] at hr24
  unfold b15_1
  simp only [und, List.replicate, List.cons_append, List.nil_append]
  refine ee_seq_reg rfl (by simp [-chunk, -Cell.isSl, -callOp, callOp_eq, ]; rfl) ?_
  by_cases c25 : p8 < (y23.length : Int)
  · skip
    have c25N := c25
    try simp at c25N
    rw [if_pos] at hr24
    rotate_left
    · simp [c25, c25N]
    refine ee_seq_condT (by simp [bV, c25, c25N]) ?_
    refine ee_seq_skip ?_
    refine ee_seq_block ?_
    refine ee_seq_reg rfl (by simp [-chunk, -Cell.isSl, -callOp, callOp_eq, c25, c25N]; rfl) ?_
    obtain ⟨j26, hj26, hr24⟩ := Option.bind_eq_some_iff.1 hr24
    obtain ⟨j26a, j26b, j26c⟩ := inA_some hj26
    obtain ⟨x27, hx27, hr24⟩ := Option.bind_eq_some_iff.1 hr24
    have ghx27 := getE_of hx27
    refine ee_reg rfl (by simp [-chunk, -Cell.isSl, -callOp, callOp_eq, j26a, j26b, j26c, hx27, ghx27, c25, c25N]; rfl) ?_
    simp only [outOf, thenQ, QL, if_true, ite_true, reduceCtorEq, if_false]
    refine ee_reg rfl (by simp [-chunk, -Cell.isSl, -callOp, callOp_eq, c25, c25N]; rfl) ?_
    obtain rfl := Option.some.inj hr24
    simp only [outOf, thenQ, QL, if_true, ite_true, reduceCtorEq, if_false]
    simp [und, List.replicate, Nat.add_assoc, c25, c25N]
  · skip
    have c25N := c25
    try simp at c25N
    rw [if_neg] at hr24
    rotate_left
    · simp [c25, c25N]
    refine ee_seq_condF (by simp [bV, c25, c25N]) ?_
    refine ee_seq_exit ?_
    obtain ⟨r28, q28, rfl⟩ := Option.map_eq_some_iff.1 hr24
    simp only [outOf, thenQ, QL, if_true, ite_true, reduceCtorEq, if_false]
    rintro rfl
    try simp only [outOf, thenQ, QL, if_true, ite_true, reduceCtorEq, if_false]
    unfold Lbuild_Weight_k1 at q28
    obtain ⟨y29, hy29, q28⟩ := Option.bind_eq_some_iff.1 q28
    have ehy29 := G_Ltx_Weight_eq hy29
    try simp only [intsR_nil, intsR_cons, intsR_app, intsR_tk, intsR_dr, intsR_st, intsR_rep, List.map_nil, List.map_cons, List.map_append, List.map_take, List.map_drop, List.map_set, List.map_replicate, List.nil_append, List.cons_append, List.append_assoc, eapi_Input, eapi_Output, eapi_Spendable, eS_I_u8] at ehy29
    refine ee_seq_reg rfl (by simp [-chunk, -Cell.isSl, -callOp, callOp_eq, hT32, ehy29, c25, c25N]; rfl) ?_
    refine ee_assoc ?_
    refine ee_seq_reg rfl (by simp [-chunk, -Cell.isSl, -callOp, callOp_eq, c25, c25N]; rfl) ?_
    refine ee_seq_block ?_
    refine ee_loop (kq := ⟨[6, 27, 28, 29], [], []⟩) (H := fun (s : Int × Int) => match s with | (p17, p18) => (⟨(und 6 ++ ([.one (.v (.int .i64 p17))] ++ (und 20 ++ ([.one (.slice .no (List.map eapi_Spendable a1)), .one (.v (.int .i64 (a1.length : Int))), .one (.v (.int .i64 p18))] ++ (und 9)))) : List PV), ([] : Boxes)⟩ : ASt)) (by kernel_rfl) q28 (by simp [und, List.replicate, c25, c25N]) ?_
    rintro ⟨p17, p18⟩ x30r hr30
    simp only [Lbuild_Weight_s2] at hr30
    unfold b15_2
    simp only [und, List.replicate, List.cons_append, List.nil_append]
    refine ee_seq_reg rfl (by simp [-chunk, -Cell.isSl, -callOp, callOp_eq, c25, c25N]; rfl) ?_
    by_cases c31 : p18 < (a1.length : Int)
    · skip
      have c31N := c31
      try simp at c31N
      rw [if_pos] at hr30
      rotate_left
      · simp [c25, c25N, c31, c31N]
      refine ee_seq_condT (by simp [bV, c25, c25N, c31, c31N]) ?_
      refine ee_seq_skip ?_
      refine ee_seq_block ?_
      obtain ⟨x32, hx32, hr30⟩ := Option.bind_eq_some_iff.1 hr30
      obtain ⟨hx32a, hx32b⟩ := idx_some hx32
      have hx32c := getE_of hx32b
      refine ee_seq_reg rfl (by simp [-chunk, -Cell.isSl, -callOp, callOp_eq, hx32a, hx32b, hx32c, c25, c25N, c31, c31N]; rfl) ?_
      refine ee_reg rfl (by simp [-chunk, -Cell.isSl, -callOp, callOp_eq, c25, c25N, c31, c31N]; rfl) ?_
      simp only [outOf, thenQ, QL, if_true, ite_true, reduceCtorEq, if_false]
      refine ee_reg rfl (by simp [-chunk, -Cell.isSl, -callOp, callOp_eq, c25, c25N, c31, c31N]; rfl) ?_
      obtain rfl := Option.some.inj hr30
      simp only [outOf, thenQ, QL, if_true, ite_true, reduceCtorEq, if_false]
      simp [und, List.replicate, Nat.add_assoc, c25, c25N, c31, c31N]
    · skip
      have c31N := c31
      try simp at c31N
      rw [if_neg] at hr30
      rotate_left
      · simp [c25, c25N, c31, c31N]
      refine ee_seq_condF (by simp [bV, c25, c25N, c31, c31N]) ?_
      refine ee_seq_exit ?_
      obtain ⟨r33, q33, rfl⟩ := Option.map_eq_some_iff.1 hr30
      simp only [outOf, thenQ, QL, if_true, ite_true, reduceCtorEq, if_false]
      rintro rfl
      try simp only [outOf, thenQ, QL, if_true, ite_true, reduceCtorEq, if_false]
      unfold Lbuild_Weight_k2 at q33
      refine ee_seq_reg rfl (by simp [-chunk, -Cell.isSl, -callOp, callOp_eq, c25, c25N, c31, c31N]; rfl) ?_
      refine ee_ret ?_
      obtain rfl := Option.some.inj q33
      simp [FinQ, -chunk, -Cell.isSl, -callOp, callOp_eq, c25, c25N, c31, c31N]
def kp75 : Keep := fun i => ⟨[], [], []⟩
theorem w75 {T : Tab} (a0 : (List Int)) (a1 : (List Int)) (x : (List Int)) (hr : Lref01_joined a0 a1 = some x) : ∃ kp fl n, execFn tt T G kp fl n Try.f75 [.one (.slice .no (intsR .u8 a0)), .one (.slice .no (intsR .u8 a1))] = some (.one (.own 1 (intsR .u8 x)), []) := by
  refine fnE (kp := kp75) (w := true) body75 ?_
  unfold c75
  rw [Try.ntmps75]
  unfold Lref01_joined at hr
  refine ee_seq_reg rfl (by simp [-chunk, -Cell.isSl, -callOp, callOp_eq, ]; rfl) ?_
  obtain ⟨_, u4, hr⟩ := Option.bind_eq_some_iff.1 hr
  obtain ⟨u4_0, u4_1⟩ := chk_some u4
  have mf5 : 0 ≤ (IntKind.i64.wrap ((a0.length : Int) + (a1.length : Int))).toNat := by omega
  have mf6 : (IntKind.i64.wrap ((a0.length : Int) + (a1.length : Int))).toNat ≤ 140737488355328 := by omega
  have mf7 : (IntKind.i64.wrap ((a0.length : Int) + (a1.length : Int))).toNat ≤ 9223372036854775807 := by omega
  have mf8 : 0 ≤ IntKind.i64.wrap ((a0.length : Int) + (a1.length : Int)) := by omega
  refine ee_seq_reg rfl (by simp [-chunk, -Cell.isSl, -callOp, callOp_eq, u4_0, u4_1, mf5, mf6, mf7, mf8]; rfl) ?_
  obtain ⟨_, u9, hr⟩ := Option.bind_eq_some_iff.1 hr
  have u9_0 := chk_some u9
  have n1_u9_0 : a0.length ≤ 140737488355328 := by omega
  have n2_u9_0 : a0.length ≤ 9223372036854775807 := by omega
  obtain ⟨_, u10, hr⟩ := Option.bind_eq_some_iff.1 hr
  have u10_0 := chk_some u10
  have n1_u10_0 : a0.length + a1.length ≤ 140737488355328 := by omega
  have n2_u10_0 : a0.length + a1.length ≤ 9223372036854775807 := by omega
  refine ee_seq_reg rfl (by simp [-chunk, -Cell.isSl, -callOp, callOp_eq, n1_u9_0, n2_u9_0, n1_u10_0, n2_u10_0]; rfl) ?_
  refine ee_ret ?_
  obtain rfl := Option.some.inj hr
  simp [FinQ, -chunk, -Cell.isSl, -callOp, callOp_eq, n1_u9_0, n2_u9_0, n1_u10_0, n2_u10_0]
def kp76 : Keep := fun i => if i = 3 then ⟨[0, 5, 10, 11], [8], []⟩ else ⟨[], [], []⟩
theorem w76 {T : Tab} (a0 : Int) (a1 : Int) (x : (List Int)) (hr : Lref01_little a0 a1 = some x) : ∃ kp fl n, execFn tt T G kp fl n Try.f76 [.one (.v (.int .u64 a0)), .one (.v (.int .i64 a1))] = some (.one (.own 1 (intsR .u8 x)), []) := by
  refine fnE (kp := kp76) (w := true) body76 ?_
  unfold c76
  rw [Try.ntmps76]
  unfold Lref01_little at hr
  refine ee_seq_reg rfl (by simp [-chunk, -Cell.isSl, -callOp, callOp_eq, ]; rfl) ?_
  obtain ⟨_, u14, hr⟩ := Option.bind_eq_some_iff.1 hr
  obtain ⟨u14_0, u14_1⟩ := chk_some u14
  have mf15 : (a1).toNat ≤ 140737488355328 := by omega
  have mf16 : (a1).toNat ≤ 9223372036854775807 := by omega
  have mf17 : 0 ≤ a1 := by omega
  refine ee_seq_reg rfl (by simp [-chunk, -Cell.isSl, -callOp, callOp_eq, u14_0, u14_1, mf15, mf16, mf17]; rfl) ?_
  refine ee_assoc ?_
  refine ee_seq_reg rfl (by simp [-chunk, -Cell.isSl, -callOp, callOp_eq, ]; rfl) ?_
  refine ee_seq_block ?_
  refine ee_loop (kq := ⟨[0, 5, 10, 11], [8], []⟩) (H := fun (s : Int × (List Int)) => match s with | (p8, p9) => (⟨([.one (.v (.int .u64 a0))] ++ (und 4 ++ ([.one (.ms 8 0 0 (p9.length) 1)] ++ (und 4 ++ ([.one (.v (.int .i64 ((List.replicate ((a1).toNat) 0).length : Int))), .one (.v (.int .i64 p8))] ++ (und 12))))) : List PV), ([(8, ⟨0, 1, intsR .u8 p9, false, true⟩)] : Boxes)⟩ : ASt)) (by kernel_rfl) hr (by simp [und, List.replicate, ]) ?_
  rintro ⟨p8, p9⟩ x18r hr18
  simp only [Lref01_little_s1] at hr18
  unfold b76_1
  simp only [und, List.replicate, List.cons_append, List.nil_append]
  refine ee_seq_reg rfl (by simp [-chunk, -Cell.isSl, -callOp, callOp_eq, ]; rfl) ?_
  by_cases c19 : p8 < ((List.replicate ((a1).toNat) 0).length : Int)
  · skip
    have c19N := c19
    try simp at c19N
    rw [if_pos] at hr18
    rotate_left
    · simp [c19, c19N]
    refine ee_seq_condT (by simp [bV, c19, c19N]) ?_
    refine ee_seq_skip ?_
    refine ee_seq_block ?_
    refine ee_seq_reg rfl (by simp [-chunk, -Cell.isSl, -callOp, callOp_eq, c19, c19N]; rfl) ?_
    obtain ⟨_, u20, hr18⟩ := Option.bind_eq_some_iff.1 hr18
    have u20_0 := chk_some u20
    obtain ⟨j21, hj21, hr18⟩ := Option.bind_eq_some_iff.1 hr18
    obtain ⟨j21a, j21b, j21c⟩ := inA_some hj21
    refine ee_reg rfl (by simp [-chunk, -Cell.isSl, -callOp, callOp_eq, u20_0, j21a, j21b, j21c, c19, c19N]; rfl) ?_
    simp only [outOf, thenQ, QL, if_true, ite_true, reduceCtorEq, if_false]
    refine ee_reg rfl (by simp [-chunk, -Cell.isSl, -callOp, callOp_eq, c19, c19N]; rfl) ?_
    obtain rfl := Option.some.inj hr18
    simp only [outOf, thenQ, QL, if_true, ite_true, reduceCtorEq, if_false]
    simp [und, List.replicate, Nat.add_assoc, c19, c19N]
  · skip
    have c19N := c19
    try simp at c19N
    rw [if_neg] at hr18
    rotate_left
    · simp [c19, c19N]
    refine ee_seq_condF (by simp [bV, c19, c19N]) ?_
    refine ee_seq_exit ?_
    obtain ⟨r22, q22, rfl⟩ := Option.map_eq_some_iff.1 hr18
    simp only [outOf, thenQ, QL, if_true, ite_true, reduceCtorEq, if_false]
    rintro rfl
    try simp only [outOf, thenQ, QL, if_true, ite_true, reduceCtorEq, if_false]
    unfold Lref01_little_k1 at q22
    refine ee_seq_reg rfl (by simp [-chunk, -Cell.isSl, -callOp, callOp_eq, c19, c19N]; rfl) ?_
    refine ee_ret ?_
    obtain rfl := Option.some.inj q22
    simp [FinQ, -chunk, -Cell.isSl, -callOp, callOp_eq, c19, c19N]
def kp62 : Keep := fun i => ⟨[], [], []⟩
theorem w62 {T : Tab} (hT75 : T 75 = some G_Lref01_joined) (hT76 : T 76 = some G_Lref01_little) (a0 : (List Int)) (a1 : Int) (x : (List Int)) (hr : Lref01_AppendU32 a0 a1 = some x) : ∃ kp fl n, execFn tt T G kp fl n Try.f62 [.one (.slice .no (intsR .u8 a0)), .one (.v (.int .u32 a1))] = some (.one (.own 1 (intsR .u8 x)), []) := by
  refine fnE (kp := kp62) (w := true) body62 ?_
  unfold c62
  rw [Try.ntmps62]
  unfold Lref01_AppendU32 at hr
  refine ee_seq_reg rfl (by simp [-chunk, -Cell.isSl, -callOp, callOp_eq, ]; rfl) ?_
  obtain ⟨y3, hy3, hr⟩ := Option.bind_eq_some_iff.1 hr
  have ehy3 := G_Lref01_little_eq hy3
  try simp only [intsR_nil, intsR_cons, intsR_app, intsR_tk, intsR_dr, intsR_st, intsR_rep, List.map_nil, List.map_cons, List.map_append, List.map_take, List.map_drop, List.map_set, List.map_replicate, List.nil_append, List.cons_append, List.append_assoc, eapi_Input, eapi_Output, eapi_Spendable, eS_I_u8] at ehy3
  obtain ⟨y4, hy4, hr⟩ := Option.bind_eq_some_iff.1 hr
  have ehy4 := G_Lref01_joined_eq hy4
  try simp only [intsR_nil, intsR_cons, intsR_app, intsR_tk, intsR_dr, intsR_st, intsR_rep, List.map_nil, List.map_cons, List.map_append, List.map_take, List.map_drop, List.map_set, List.map_replicate, List.nil_append, List.cons_append, List.append_assoc, eapi_Input, eapi_Output, eapi_Spendable, eS_I_u8] at ehy4
  refine ee_seq_reg rfl (by simp [-chunk, -Cell.isSl, -callOp, callOp_eq, hT76, ehy3, hT75, ehy4]; rfl) ?_
  refine ee_ret ?_
  obtain rfl := Option.some.inj hr
  simp [FinQ, -chunk, -Cell.isSl, -callOp, callOp_eq, hT76, ehy3, hT75, ehy4]
def kp63 : Keep := fun i => ⟨[], [], []⟩
theorem w63 {T : Tab} (hT75 : T 75 = some G_Lref01_joined) (hT76 : T 76 = some G_Lref01_little) (a0 : (List Int)) (a1 : Int) (x : (List Int)) (hr : Lref01_AppendSize a0 a1 = some x) : ∃ kp fl n, execFn tt T G kp fl n Try.f63 [.one (.slice .no (intsR .u8 a0)), .one (.v (.int .u64 a1))] = some (.one (.own 1 (intsR .u8 x)), []) := by
  refine fnE (kp := kp63) (w := true) body63 ?_
  unfold c63
  rw [Try.ntmps63]
  unfold Lref01_AppendSize at hr
  refine ee_seq_reg rfl (by simp [-chunk, -Cell.isSl, -callOp, callOp_eq, ]; rfl) ?_
  refine ee_seq_block ?_
  refine ee_seq_reg rfl (by simp [-chunk, -Cell.isSl, -callOp, callOp_eq, ]; rfl) ?_
  by_cases c12 : a1 < 253
  · skip
    rw [if_pos] at hr
    rotate_left
    · simp [c12]
    refine ee_condT (by simp [bV, c12]) ?_
    obtain ⟨y13, hy13, hr⟩ := Option.bind_eq_some_iff.1 hr
    have ehy13 := G_Lref01_little_eq hy13
    try simp only [intsR_nil, intsR_cons, intsR_app, intsR_tk, intsR_dr, intsR_st, intsR_rep, List.map_nil, List.map_cons, List.map_append, List.map_take, List.map_drop, List.map_set, List.map_replicate, List.nil_append, List.cons_append, List.append_assoc, eapi_Input, eapi_Output, eapi_Spendable, eS_I_u8] at ehy13
    obtain ⟨y14, hy14, hr⟩ := Option.bind_eq_some_iff.1 hr
    have ehy14 := G_Lref01_joined_eq hy14
    try simp only [intsR_nil, intsR_cons, intsR_app, intsR_tk, intsR_dr, intsR_st, intsR_rep, List.map_nil, List.map_cons, List.map_append, List.map_take, List.map_drop, List.map_set, List.map_replicate, List.nil_append, List.cons_append, List.append_assoc, eapi_Input, eapi_Output, eapi_Spendable, eS_I_u8] at ehy14
    refine ee_seq_reg rfl (by simp [-chunk, -Cell.isSl, -callOp, callOp_eq, hT76, ehy13, hT75, ehy14, c12]; rfl) ?_
    refine ee_ret ?_
    obtain rfl := Option.some.inj hr
    simp [FinQ, -chunk, -Cell.isSl, -callOp, callOp_eq, hT76, ehy13, hT75, ehy14, c12]
  · skip
    rw [if_neg] at hr
    rotate_left
    · simp [c12]
    refine ee_condF (by simp [bV, c12]) ?_
    refine ee_seq_reg rfl (by simp [-chunk, -Cell.isSl, -callOp, callOp_eq, c12]; rfl) ?_
    by_cases c15 : a1 < 65536
    · skip
      rw [if_pos] at hr
      rotate_left
      · simp [c12, c15]
      refine ee_condT (by simp [bV, c12, c15]) ?_
      obtain ⟨y16, hy16, hr⟩ := Option.bind_eq_some_iff.1 hr
      have ehy16 := G_Lref01_little_eq hy16
      try simp only [intsR_nil, intsR_cons, intsR_app, intsR_tk, intsR_dr, intsR_st, intsR_rep, List.map_nil, List.map_cons, List.map_append, List.map_take, List.map_drop, List.map_set, List.map_replicate, List.nil_append, List.cons_append, List.append_assoc, eapi_Input, eapi_Output, eapi_Spendable, eS_I_u8] at ehy16
      obtain ⟨y17, hy17, hr⟩ := Option.bind_eq_some_iff.1 hr
      have ehy17 := G_Lref01_joined_eq hy17
      try simp only [intsR_nil, intsR_cons, intsR_app, intsR_tk, intsR_dr, intsR_st, intsR_rep, List.map_nil, List.map_cons, List.map_append, List.map_take, List.map_drop, List.map_set, List.map_replicate, List.nil_append, List.cons_append, List.append_assoc, eapi_Input, eapi_Output, eapi_Spendable, eS_I_u8] at ehy17
      obtain ⟨y18, hy18, hr⟩ := Option.bind_eq_some_iff.1 hr
      have ehy18 := G_Lref01_joined_eq hy18
      try simp only [intsR_nil, intsR_cons, intsR_app, intsR_tk, intsR_dr, intsR_st, intsR_rep, List.map_nil, List.map_cons, List.map_append, List.map_take, List.map_drop, List.map_set, List.map_replicate, List.nil_append, List.cons_append, List.append_assoc, eapi_Input, eapi_Output, eapi_Spendable, eS_I_u8] at ehy18
      refine ee_seq_reg rfl (by simp [-chunk, -Cell.isSl, -callOp, callOp_eq, hT76, ehy16, hT75, ehy17, ehy18, c12, c15]; rfl) ?_
      refine ee_ret ?_
      obtain rfl := Option.some.inj hr
      simp [FinQ, -chunk, -Cell.isSl, -callOp, callOp_eq, hT76, ehy16, hT75, ehy17, ehy18, c12, c15]
    · skip
      rw [if_neg] at hr
      rotate_left
      · simp [c12, c15]
      refine ee_condF (by simp [bV, c12, c15]) ?_
      refine ee_seq_reg rfl (by simp [-chunk, -Cell.isSl, -callOp, callOp_eq, c12, c15]; rfl) ?_
      by_cases c19 : a1 < 4294967296
      · skip
        rw [if_pos] at hr
        rotate_left
        · simp [c12, c15, c19]
        refine ee_condT (by simp [bV, c12, c15, c19]) ?_
        obtain ⟨y20, hy20, hr⟩ := Option.bind_eq_some_iff.1 hr
        have ehy20 := G_Lref01_little_eq hy20
        try simp only [intsR_nil, intsR_cons, intsR_app, intsR_tk, intsR_dr, intsR_st, intsR_rep, List.map_nil, List.map_cons, List.map_append, List.map_take, List.map_drop, List.map_set, List.map_replicate, List.nil_append, List.cons_append, List.append_assoc, eapi_Input, eapi_Output, eapi_Spendable, eS_I_u8] at ehy20
        obtain ⟨y21, hy21, hr⟩ := Option.bind_eq_some_iff.1 hr
        have ehy21 := G_Lref01_joined_eq hy21
        try simp only [intsR_nil, intsR_cons, intsR_app, intsR_tk, intsR_dr, intsR_st, intsR_rep, List.map_nil, List.map_cons, List.map_append, List.map_take, List.map_drop, List.map_set, List.map_replicate, List.nil_append, List.cons_append, List.append_assoc, eapi_Input, eapi_Output, eapi_Spendable, eS_I_u8] at ehy21
        obtain ⟨y22, hy22, hr⟩ := Option.bind_eq_some_iff.1 hr
        have ehy22 := G_Lref01_joined_eq hy22
        try simp only [intsR_nil, intsR_cons, intsR_app, intsR_tk, intsR_dr, intsR_st, intsR_rep, List.map_nil, List.map_cons, List.map_append, List.map_take, List.map_drop, List.map_set, List.map_replicate, List.nil_append, List.cons_append, List.append_assoc, eapi_Input, eapi_Output, eapi_Spendable, eS_I_u8] at ehy22
        refine ee_seq_reg rfl (by simp [-chunk, -Cell.isSl, -callOp, callOp_eq, hT76, ehy20, hT75, ehy21, ehy22, c12, c15, c19]; rfl) ?_
        refine ee_ret ?_
        obtain rfl := Option.some.inj hr
        simp [FinQ, -chunk, -Cell.isSl, -callOp, callOp_eq, hT76, ehy20, hT75, ehy21, ehy22, c12, c15, c19]
      · skip
        rw [if_neg] at hr
        rotate_left
        · simp [c12, c15, c19]
        refine ee_condF (by simp [bV, c12, c15, c19]) ?_
        refine ee_skip ?_
        simp only [outOf, thenQ, QL, if_true, ite_true, reduceCtorEq, if_false]
        obtain ⟨y23, hy23, hr⟩ := Option.bind_eq_some_iff.1 hr
        have ehy23 := G_Lref01_little_eq hy23
        try simp only [intsR_nil, intsR_cons, intsR_app, intsR_tk, intsR_dr, intsR_st, intsR_rep, List.map_nil, List.map_cons, List.map_append, List.map_take, List.map_drop, List.map_set, List.map_replicate, List.nil_append, List.cons_append, List.append_assoc, eapi_Input, eapi_Output, eapi_Spendable, eS_I_u8] at ehy23
        obtain ⟨y24, hy24, hr⟩ := Option.bind_eq_some_iff.1 hr
        have ehy24 := G_Lref01_joined_eq hy24
        try simp only [intsR_nil, intsR_cons, intsR_app, intsR_tk, intsR_dr, intsR_st, intsR_rep, List.map_nil, List.map_cons, List.map_append, List.map_take, List.map_drop, List.map_set, List.map_replicate, List.nil_append, List.cons_append, List.append_assoc, eapi_Input, eapi_Output, eapi_Spendable, eS_I_u8] at ehy24
        obtain ⟨y25, hy25, hr⟩ := Option.bind_eq_some_iff.1 hr
        have ehy25 := G_Lref01_joined_eq hy25
        try simp only [intsR_nil, intsR_cons, intsR_app, intsR_tk, intsR_dr, intsR_st, intsR_rep, List.map_nil, List.map_cons, List.map_append, List.map_take, List.map_drop, List.map_set, List.map_replicate, List.nil_append, List.cons_append, List.append_assoc, eapi_Input, eapi_Output, eapi_Spendable, eS_I_u8] at ehy25
        refine ee_seq_reg rfl (by simp [-chunk, -Cell.isSl, -callOp, callOp_eq, hT76, ehy23, hT75, ehy24, ehy25, c12, c15, c19]; rfl) ?_
        refine ee_ret ?_
        obtain rfl := Option.some.inj hr
        simp [FinQ, -chunk, -Cell.isSl, -callOp, callOp_eq, hT76, ehy23, hT75, ehy24, ehy25, c12, c15, c19]
def kp77 : Keep := fun i => ⟨[], [], []⟩
theorem w77 {T : Tab} (hT75 : T 75 = some G_Lref01_joined) (a0 : (List Int)) (a1 : (Arr 32)) (x : (List Int)) (hr : Lref01_AppendHash a0 a1 = some x) : ∃ kp fl n, execFn tt T G kp fl n Try.f77 [.one (.slice .no (intsR .u8 a0)), .agg (arC .u8 a1)] = some (.one (.own 1 (intsR .u8 x)), []) := by
  refine fnE (kp := kp77) (w := true) body77 ?_
  unfold c77
  rw [Try.ntmps77]
  unfold Lref01_AppendHash at hr
  refine ee_seq_reg rfl (by simp [-chunk, -Cell.isSl, -callOp, callOp_eq, ]; rfl) ?_
  obtain ⟨y2, hy2, hr⟩ := Option.bind_eq_some_iff.1 hr
  have ehy2 := G_Lref01_joined_eq hy2
  try simp only [intsR_nil, intsR_cons, intsR_app, intsR_tk, intsR_dr, intsR_st, intsR_rep, List.map_nil, List.map_cons, List.map_append, List.map_take, List.map_drop, List.map_set, List.map_replicate, List.nil_append, List.cons_append, List.append_assoc, eapi_Input, eapi_Output, eapi_Spendable, eS_I_u8] at ehy2
  refine ee_seq_reg rfl (by simp [-chunk, -Cell.isSl, -callOp, callOp_eq, hT75, ehy2]; rfl) ?_
  refine ee_ret ?_
  obtain rfl := Option.some.inj hr
  simp [FinQ, -chunk, -Cell.isSl, -callOp, callOp_eq, hT75, ehy2]
def kp64 : Keep := fun i => ⟨[], [], []⟩
theorem w64 {T : Tab} (hT62 : T 62 = some G_Lref01_AppendU32) (hT77 : T 77 = some G_Lref01_AppendHash) (a0 : Tapi_OutPoint) (x : (List Int)) (hr : Lref09_Point a0 = some x) : ∃ kp fl n, execFn tt T G kp fl n Try.f64 [.agg ((arC .u8 a0.1) ++ ((.v (.int .u32 a0.2)) :: []))] = some (.one (.own 1 (intsR .u8 x)), []) := by
  refine fnE (kp := kp64) (w := true) body64 ?_
  unfold c64
  rw [Try.ntmps64]
  unfold Lref09_Point at hr
  refine ee_seq_reg rfl (by simp [-chunk, -Cell.isSl, -callOp, callOp_eq, ]; rfl) ?_
  obtain ⟨y3, hy3, hr⟩ := Option.bind_eq_some_iff.1 hr
  have ehy3 := G_Lref01_AppendHash_eq hy3
  try simp only [intsR_nil, intsR_cons, intsR_app, intsR_tk, intsR_dr, intsR_st, intsR_rep, List.map_nil, List.map_cons, List.map_append, List.map_take, List.map_drop, List.map_set, List.map_replicate, List.nil_append, List.cons_append, List.append_assoc, eapi_Input, eapi_Output, eapi_Spendable, eS_I_u8] at ehy3
  obtain ⟨y4, hy4, hr⟩ := Option.bind_eq_some_iff.1 hr
  have ehy4 := G_Lref01_AppendU32_eq hy4
  try simp only [intsR_nil, intsR_cons, intsR_app, intsR_tk, intsR_dr, intsR_st, intsR_rep, List.map_nil, List.map_cons, List.map_append, List.map_take, List.map_drop, List.map_set, List.map_replicate, List.nil_append, List.cons_append, List.append_assoc, eapi_Input, eapi_Output, eapi_Spendable, eS_I_u8] at ehy4
  refine ee_seq_draw rfl (by simp [-chunk, -Cell.isSl, -callOp, callOp_eq, hT77, ehy3, hT62, ehy4]; first | exact ⟨rfl, rfl⟩ | rfl) (by kernel_rfl) ?_
  refine ee_ret ?_
  obtain rfl := Option.some.inj hr
  simp [FinQ, -chunk, -Cell.isSl, -callOp, callOp_eq, hT77, ehy3, hT62, ehy4]
def kp66 : Keep := fun i => ⟨[], [], []⟩
theorem w66 {T : Tab} (hT63 : T 63 = some G_Lref01_AppendSize) (hT75 : T 75 = some G_Lref01_joined) (a0 : (List Int)) (a1 : (List Int)) (x : (List Int)) (hr : Lref01_AppendBytes a0 a1 = some x) : ∃ kp fl n, execFn tt T G kp fl n Try.f66 [.one (.slice .no (intsR .u8 a0)), .one (.slice .no (intsR .u8 a1))] = some (.one (.own 1 (intsR .u8 x)), []) := by
  refine fnE (kp := kp66) (w := true) body66 ?_
  unfold c66
  rw [Try.ntmps66]
  unfold Lref01_AppendBytes at hr
  refine ee_seq_reg rfl (by simp [-chunk, -Cell.isSl, -callOp, callOp_eq, ]; rfl) ?_
  obtain ⟨y3, hy3, hr⟩ := Option.bind_eq_some_iff.1 hr
  have ehy3 := G_Lref01_AppendSize_eq hy3
  try simp only [intsR_nil, intsR_cons, intsR_app, intsR_tk, intsR_dr, intsR_st, intsR_rep, List.map_nil, List.map_cons, List.map_append, List.map_take, List.map_drop, List.map_set, List.map_replicate, List.nil_append, List.cons_append, List.append_assoc, eapi_Input, eapi_Output, eapi_Spendable, eS_I_u8] at ehy3
  obtain ⟨y4, hy4, hr⟩ := Option.bind_eq_some_iff.1 hr
  have ehy4 := G_Lref01_joined_eq hy4
  try simp only [intsR_nil, intsR_cons, intsR_app, intsR_tk, intsR_dr, intsR_st, intsR_rep, List.map_nil, List.map_cons, List.map_append, List.map_take, List.map_drop, List.map_set, List.map_replicate, List.nil_append, List.cons_append, List.append_assoc, eapi_Input, eapi_Output, eapi_Spendable, eS_I_u8] at ehy4
  refine ee_seq_reg rfl (by simp [-chunk, -Cell.isSl, -callOp, callOp_eq, hT63, ehy3, hT75, ehy4]; rfl) ?_
  refine ee_ret ?_
  obtain rfl := Option.some.inj hr
  simp [FinQ, -chunk, -Cell.isSl, -callOp, callOp_eq, hT63, ehy3, hT75, ehy4]
def kp78 : Keep := fun i => ⟨[], [], []⟩
theorem w78 {T : Tab} (hT75 : T 75 = some G_Lref01_joined) (hT76 : T 76 = some G_Lref01_little) (a0 : (List Int)) (a1 : Int) (x : (List Int)) (hr : Lref01_AppendU64 a0 a1 = some x) : ∃ kp fl n, execFn tt T G kp fl n Try.f78 [.one (.slice .no (intsR .u8 a0)), .one (.v (.int .u64 a1))] = some (.one (.own 1 (intsR .u8 x)), []) := by
  refine fnE (kp := kp78) (w := true) body78 ?_
  unfold c78
  rw [Try.ntmps78]
  unfold Lref01_AppendU64 at hr
  refine ee_seq_reg rfl (by simp [-chunk, -Cell.isSl, -callOp, callOp_eq, ]; rfl) ?_
  obtain ⟨y3, hy3, hr⟩ := Option.bind_eq_some_iff.1 hr
  have ehy3 := G_Lref01_little_eq hy3
  try simp only [intsR_nil, intsR_cons, intsR_app, intsR_tk, intsR_dr, intsR_st, intsR_rep, List.map_nil, List.map_cons, List.map_append, List.map_take, List.map_drop, List.map_set, List.map_replicate, List.nil_append, List.cons_append, List.append_assoc, eapi_Input, eapi_Output, eapi_Spendable, eS_I_u8] at ehy3
  obtain ⟨y4, hy4, hr⟩ := Option.bind_eq_some_iff.1 hr
  have ehy4 := G_Lref01_joined_eq hy4
  try simp only [intsR_nil, intsR_cons, intsR_app, intsR_tk, intsR_dr, intsR_st, intsR_rep, List.map_nil, List.map_cons, List.map_append, List.map_take, List.map_drop, List.map_set, List.map_replicate, List.nil_append, List.cons_append, List.append_assoc, eapi_Input, eapi_Output, eapi_Spendable, eS_I_u8] at ehy4
  refine ee_seq_reg rfl (by simp [-chunk, -Cell.isSl, -callOp, callOp_eq, hT76, ehy3, hT75, ehy4]; rfl) ?_
  refine ee_ret ?_
  obtain rfl := Option.some.inj hr
  simp [FinQ, -chunk, -Cell.isSl, -callOp, callOp_eq, hT76, ehy3, hT75, ehy4]
def kp65 : Keep := fun i => ⟨[], [], []⟩
theorem w65 {T : Tab} (hT66 : T 66 = some G_Lref01_AppendBytes) (hT78 : T 78 = some G_Lref01_AppendU64) (a0 : Tapi_Output) (x : (List Int)) (hr : Lref09_Out a0 = some x) : ∃ kp fl n, execFn tt T G kp fl n Try.f65 [.agg ([.v (.int .i64 a0.1), .slice .no (intsR .u8 a0.2)])] = some (.one (.own 1 (intsR .u8 x)), []) := by
  refine fnE (kp := kp65) (w := true) body65 ?_
  unfold c65
  rw [Try.ntmps65]
  unfold Lref09_Out at hr
  refine ee_seq_reg rfl (by simp [-chunk, -Cell.isSl, -callOp, callOp_eq, ]; rfl) ?_
  obtain ⟨y3, hy3, hr⟩ := Option.bind_eq_some_iff.1 hr
  have ehy3 := G_Lref01_AppendU64_eq hy3
  try simp only [intsR_nil, intsR_cons, intsR_app, intsR_tk, intsR_dr, intsR_st, intsR_rep, List.map_nil, List.map_cons, List.map_append, List.map_take, List.map_drop, List.map_set, List.map_replicate, List.nil_append, List.cons_append, List.append_assoc, eapi_Input, eapi_Output, eapi_Spendable, eS_I_u8] at ehy3
  obtain ⟨y4, hy4, hr⟩ := Option.bind_eq_some_iff.1 hr
  have ehy4 := G_Lref01_AppendBytes_eq hy4
  try simp only [intsR_nil, intsR_cons, intsR_app, intsR_tk, intsR_dr, intsR_st, intsR_rep, List.map_nil, List.map_cons, List.map_append, List.map_take, List.map_drop, List.map_set, List.map_replicate, List.nil_append, List.cons_append, List.append_assoc, eapi_Input, eapi_Output, eapi_Spendable, eS_I_u8] at ehy4
  refine ee_seq_draw rfl (by simp [-chunk, -Cell.isSl, -callOp, callOp_eq, hT78, ehy3, hT66, ehy4]; first | exact ⟨rfl, rfl⟩ | rfl) (by kernel_rfl) ?_
  refine ee_ret ?_
  obtain rfl := Option.some.inj hr
  simp [FinQ, -chunk, -Cell.isSl, -callOp, callOp_eq, hT78, ehy3, hT66, ehy4]
end Go.Proofs.Ytanhccemhpmnhaa
