import Derived.Test.YtanhccemhpmnhaaLfK
import Derived.Test.YtanhccemhpmnhaaCode
namespace Go.Proofs.Ytanhccemhpmnhaa
open Go.RowKit
open Go.Av
open Go.Lc
set_option maxRecDepth 100000
set_option linter.unusedSimpArgs false
set_option linter.unusedVariables false
variable {G : Glob}
def kp71 : Keep := fun i => ⟨[], [], []⟩
theorem w71 {T : Tab} (a0 : (List Int)) (a1 : (List Int)) (x : (List Int)) (hr : Lcodec_extend a0 a1 = some x) : ∃ kp fl n, execFn tt T G kp fl n Try.f71 [.one (.slice .no (intsR .u8 a0)), .one (.slice .no (intsR .u8 a1))] = some (.one (.own 1 (intsR .u8 x)), []) := by
  refine fnE (kp := kp71) (w := true) body71 ?_
  unfold c71
  rw [Try.ntmps71]
  unfold Lcodec_extend at hr
  refine ee_seq_reg rfl (by simp [-chunk, -Cell.isSl, -callOp, callOp_eq, ]; rfl) ?_
  obtain ⟨_, u4, hr⟩ := Option.bind_eq_some_iff.1 hr
  obtain ⟨u4_0, u4_1⟩ := chk_some u4
  have mf5 : 0 ≤ (IntKind.i64.wrap ((a0.length : Int) + (a1.length : Int))).toNat := by omega
  have mf6 : (IntKind.i64.wrap ((a0.length : Int) + (a1.length : Int))).toNat ≤ 140737488355328 := by omega
  have mf7 : (IntKind.i64.wrap ((a0.length : Int) + (a1.length : Int))).toNat ≤ 9223372036854775807 := by omega
  have mf8 : 0 ≤ IntKind.i64.wrap ((a0.length : Int) + (a1.length : Int)) := by omega
  refine ee_seq_reg rfl (by simp [-chunk, -Cell.isSl, -callOp, callOp_eq, u4_0, u4_1, mf5, mf6, mf7, mf8]; rfl) ?_
  obtain ⟨_, u9, hr⟩ := Option.bind_eq_some_iff.1 hr
  have u9_0 := chk_some u9
  have n1_u9_0 : a0.length ≤ 140737488355328 := by omega
  have n2_u9_0 : a0.length ≤ 9223372036854775807 := by omega
  refine ee_seq_reg rfl (by simp [-chunk, -Cell.isSl, -callOp, callOp_eq, n1_u9_0, n2_u9_0]; rfl) ?_
  obtain ⟨_, u10, hr⟩ := Option.bind_eq_some_iff.1 hr
  have u10_0 := chk_some u10
  have n1_u10_0 : a0.length + a1.length ≤ 140737488355328 := by omega
  have n2_u10_0 : a0.length + a1.length ≤ 9223372036854775807 := by omega
  refine ee_seq_reg rfl (by simp [-chunk, -Cell.isSl, -callOp, callOp_eq, n1_u10_0, n2_u10_0]; rfl) ?_
  refine ee_ret ?_
  obtain rfl := Option.some.inj hr
  simp [FinQ, -chunk, -Cell.isSl, -callOp, callOp_eq, n1_u10_0, n2_u10_0]
def kp72 : Keep := fun i => if i = 3 then ⟨[0, 5, 9, 10], [8], []⟩ else ⟨[], [], []⟩
theorem w72 {T : Tab} (a0 : Int) (a1 : Int) (x : (List Int)) (hr : Lcodec_lowest a0 a1 = some x) : ∃ kp fl n, execFn tt T G kp fl n Try.f72 [.one (.v (.int .u64 a0)), .one (.v (.int .i64 a1))] = some (.one (.own 1 (intsR .u8 x)), []) := by
  refine fnE (kp := kp72) (w := true) body72 ?_
  unfold c72
  rw [Try.ntmps72]
  unfold Lcodec_lowest at hr
  refine ee_seq_reg rfl (by simp [-chunk, -Cell.isSl, -callOp, callOp_eq, ]; rfl) ?_
  obtain ⟨_, u14, hr⟩ := Option.bind_eq_some_iff.1 hr
  obtain ⟨u14_0, u14_1⟩ := chk_some u14
  have mf15 : (a1).toNat ≤ 140737488355328 := by omega
  have mf16 : (a1).toNat ≤ 9223372036854775807 := by omega
  have mf17 : 0 ≤ a1 := by omega
  refine ee_seq_reg rfl (by simp [-chunk, -Cell.isSl, -callOp, callOp_eq, u14_0, u14_1, mf15, mf16, mf17]; rfl) ?_
  refine ee_assoc ?_
  refine ee_seq_reg rfl (by simp [-chunk, -Cell.isSl, -callOp, callOp_eq, ]; rfl) ?_
  refine ee_seq_block ?_
  refine ee_loop (kq := ⟨[0, 5, 9, 10], [8], []⟩) (H := fun (s : Int × (List Int)) => match s with | (p8, p9) => (⟨([.one (.v (.int .u64 a0))] ++ (und 4 ++ ([.one (.ms 8 0 0 (p9.length) 1)] ++ (und 3 ++ ([.one (.v (.int .i64 a1)), .one (.v (.int .i64 p8))] ++ (und 12))))) : List PV), ([(8, ⟨0, 1, intsR .u8 p9, false, true⟩)] : Boxes)⟩ : ASt)) (by kernel_rfl) hr (by simp [und, List.replicate, ]) ?_
  rintro ⟨p8, p9⟩ x18r hr18
  simp only [Lcodec_lowest_s1] at hr18
  unfold b72_1
  simp only [und, List.replicate, List.cons_append, List.nil_append]
  refine ee_seq_reg rfl (by simp [-chunk, -Cell.isSl, -callOp, callOp_eq, ]; rfl) ?_
  by_cases c19 : p8 < a1
  · skip
    rw [if_pos] at hr18
    rotate_left
    · simp [c19]
    refine ee_seq_condT (by simp [bV, c19]) ?_
    refine ee_seq_skip ?_
    refine ee_seq_block ?_
    refine ee_seq_reg rfl (by simp [-chunk, -Cell.isSl, -callOp, callOp_eq, c19]; rfl) ?_
    obtain ⟨_, u20, hr18⟩ := Option.bind_eq_some_iff.1 hr18
    have u20_0 := chk_some u20
    obtain ⟨j21, hj21, hr18⟩ := Option.bind_eq_some_iff.1 hr18
    obtain ⟨j21a, j21b, j21c⟩ := inA_some hj21
    refine ee_reg rfl (by simp [-chunk, -Cell.isSl, -callOp, callOp_eq, u20_0, j21a, j21b, j21c, c19]; rfl) ?_
    simp only [outOf, thenQ, QL, if_true, ite_true, reduceCtorEq, if_false]
    refine ee_reg rfl (by simp [-chunk, -Cell.isSl, -callOp, callOp_eq, c19]; rfl) ?_
    obtain rfl := Option.some.inj hr18
    simp only [outOf, thenQ, QL, if_true, ite_true, reduceCtorEq, if_false]
    simp [und, List.replicate, Nat.add_assoc, c19]
  · skip
    rw [if_neg] at hr18
    rotate_left
    · simp [c19]
    refine ee_seq_condF (by simp [bV, c19]) ?_
    refine ee_seq_exit ?_
    obtain ⟨r22, q22, rfl⟩ := Option.map_eq_some_iff.1 hr18
    simp only [outOf, thenQ, QL, if_true, ite_true, reduceCtorEq, if_false]
    rintro rfl
    try simp only [outOf, thenQ, QL, if_true, ite_true, reduceCtorEq, if_false]
    unfold Lcodec_lowest_k1 at q22
    refine ee_seq_reg rfl (by simp [-chunk, -Cell.isSl, -callOp, callOp_eq, c19]; rfl) ?_
    refine ee_ret ?_
    obtain rfl := Option.some.inj q22
    simp [FinQ, -chunk, -Cell.isSl, -callOp, callOp_eq, c19]
def kp57 : Keep := fun i => ⟨[], [], []⟩
theorem w57 {T : Tab} (hT71 : T 71 = some G_Lcodec_extend) (hT72 : T 72 = some G_Lcodec_lowest) (a0 : (List Int)) (a1 : Int) (x : (List Int)) (hr : Lcodec_AppendU32 a0 a1 = some x) : ∃ kp fl n, execFn tt T G kp fl n Try.f57 [.one (.slice .no (intsR .u8 a0)), .one (.v (.int .u32 a1))] = some (.one (.own 1 (intsR .u8 x)), []) := by
  refine fnE (kp := kp57) (w := true) body57 ?_
  unfold c57
  rw [Try.ntmps57]
  unfold Lcodec_AppendU32 at hr
  refine ee_seq_reg rfl (by simp [-chunk, -Cell.isSl, -callOp, callOp_eq, ]; rfl) ?_
  obtain ⟨y3, hy3, hr⟩ := Option.bind_eq_some_iff.1 hr
  have ehy3 := G_Lcodec_lowest_eq hy3
  try simp only [intsR_nil, intsR_cons, intsR_app, intsR_tk, intsR_dr, intsR_st, intsR_rep, List.map_nil, List.map_cons, List.map_append, List.map_take, List.map_drop, List.map_set, List.map_replicate, List.nil_append, List.cons_append, List.append_assoc] at ehy3
  obtain ⟨y4, hy4, hr⟩ := Option.bind_eq_some_iff.1 hr
  have ehy4 := G_Lcodec_extend_eq hy4
  try simp only [intsR_nil, intsR_cons, intsR_app, intsR_tk, intsR_dr, intsR_st, intsR_rep, List.map_nil, List.map_cons, List.map_append, List.map_take, List.map_drop, List.map_set, List.map_replicate, List.nil_append, List.cons_append, List.append_assoc] at ehy4
  refine ee_seq_reg rfl (by simp [-chunk, -Cell.isSl, -callOp, callOp_eq, hT72, ehy3, hT71, ehy4]; rfl) ?_
  refine ee_ret ?_
  obtain rfl := Option.some.inj hr
  simp [FinQ, -chunk, -Cell.isSl, -callOp, callOp_eq, hT72, ehy3, hT71, ehy4]
def kp60 : Keep := fun i => ⟨[], [], []⟩
theorem w60 {T : Tab} (hT71 : T 71 = some G_Lcodec_extend) (hT72 : T 72 = some G_Lcodec_lowest) (a0 : (List Int)) (a1 : Int) (x : (List Int)) (hr : Lcodec_AppendU64 a0 a1 = some x) : ∃ kp fl n, execFn tt T G kp fl n Try.f60 [.one (.slice .no (intsR .u8 a0)), .one (.v (.int .u64 a1))] = some (.one (.own 1 (intsR .u8 x)), []) := by
  refine fnE (kp := kp60) (w := true) body60 ?_
  unfold c60
  rw [Try.ntmps60]
  unfold Lcodec_AppendU64 at hr
  refine ee_seq_reg rfl (by simp [-chunk, -Cell.isSl, -callOp, callOp_eq, ]; rfl) ?_
  obtain ⟨y3, hy3, hr⟩ := Option.bind_eq_some_iff.1 hr
  have ehy3 := G_Lcodec_lowest_eq hy3
  try simp only [intsR_nil, intsR_cons, intsR_app, intsR_tk, intsR_dr, intsR_st, intsR_rep, List.map_nil, List.map_cons, List.map_append, List.map_take, List.map_drop, List.map_set, List.map_replicate, List.nil_append, List.cons_append, List.append_assoc] at ehy3
  obtain ⟨y4, hy4, hr⟩ := Option.bind_eq_some_iff.1 hr
  have ehy4 := G_Lcodec_extend_eq hy4
  try simp only [intsR_nil, intsR_cons, intsR_app, intsR_tk, intsR_dr, intsR_st, intsR_rep, List.map_nil, List.map_cons, List.map_append, List.map_take, List.map_drop, List.map_set, List.map_replicate, List.nil_append, List.cons_append, List.append_assoc] at ehy4
  refine ee_seq_reg rfl (by simp [-chunk, -Cell.isSl, -callOp, callOp_eq, hT72, ehy3, hT71, ehy4]; rfl) ?_
  refine ee_ret ?_
  obtain rfl := Option.some.inj hr
  simp [FinQ, -chunk, -Cell.isSl, -callOp, callOp_eq, hT72, ehy3, hT71, ehy4]
def kp73 : Keep := fun i => ⟨[], [], []⟩
theorem w73 {T : Tab} (hT71 : T 71 = some G_Lcodec_extend) (hT72 : T 72 = some G_Lcodec_lowest) (a0 : (List Int)) (a1 : Int) (x : (List Int)) (hr : Lcodec_AppendU16 a0 a1 = some x) : ∃ kp fl n, execFn tt T G kp fl n Try.f73 [.one (.slice .no (intsR .u8 a0)), .one (.v (.int .u16 a1))] = some (.one (.own 1 (intsR .u8 x)), []) := by
  refine fnE (kp := kp73) (w := true) body73 ?_
  unfold c73
  rw [Try.ntmps73]
  unfold Lcodec_AppendU16 at hr
  refine ee_seq_reg rfl (by simp [-chunk, -Cell.isSl, -callOp, callOp_eq, ]; rfl) ?_
  obtain ⟨y3, hy3, hr⟩ := Option.bind_eq_some_iff.1 hr
  have ehy3 := G_Lcodec_lowest_eq hy3
  try simp only [intsR_nil, intsR_cons, intsR_app, intsR_tk, intsR_dr, intsR_st, intsR_rep, List.map_nil, List.map_cons, List.map_append, List.map_take, List.map_drop, List.map_set, List.map_replicate, List.nil_append, List.cons_append, List.append_assoc] at ehy3
  obtain ⟨y4, hy4, hr⟩ := Option.bind_eq_some_iff.1 hr
  have ehy4 := G_Lcodec_extend_eq hy4
  try simp only [intsR_nil, intsR_cons, intsR_app, intsR_tk, intsR_dr, intsR_st, intsR_rep, List.map_nil, List.map_cons, List.map_append, List.map_take, List.map_drop, List.map_set, List.map_replicate, List.nil_append, List.cons_append, List.append_assoc] at ehy4
  refine ee_seq_reg rfl (by simp [-chunk, -Cell.isSl, -callOp, callOp_eq, hT72, ehy3, hT71, ehy4]; rfl) ?_
  refine ee_ret ?_
  obtain rfl := Option.some.inj hr
  simp [FinQ, -chunk, -Cell.isSl, -callOp, callOp_eq, hT72, ehy3, hT71, ehy4]
def kp58 : Keep := fun i => ⟨[], [], []⟩
theorem w58 {T : Tab} (hT57 : T 57 = some G_Lcodec_AppendU32) (hT60 : T 60 = some G_Lcodec_AppendU64) (hT71 : T 71 = some G_Lcodec_extend) (hT73 : T 73 = some G_Lcodec_AppendU16) (a0 : (List Int)) (a1 : Int) (x : (List Int)) (hr : Lcodec_AppendSize a0 a1 = some x) : ∃ kp fl n, execFn tt T G kp fl n Try.f58 [.one (.slice .no (intsR .u8 a0)), .one (.v (.int .u64 a1))] = some (.one (.own 1 (intsR .u8 x)), []) := by
  refine fnE (kp := kp58) (w := true) body58 ?_
  unfold c58
  rw [Try.ntmps58]
  unfold Lcodec_AppendSize at hr
  refine ee_seq_reg rfl (by simp [-chunk, -Cell.isSl, -callOp, callOp_eq, ]; rfl) ?_
  refine ee_seq_block ?_
  refine ee_seq_reg rfl (by simp [-chunk, -Cell.isSl, -callOp, callOp_eq, ]; rfl) ?_
  by_cases c8 : a1 < 253
  · skip
    rw [if_pos] at hr
    rotate_left
    · simp [c8]
    refine ee_condT (by simp [bV, c8]) ?_
    obtain ⟨y9, hy9, hr⟩ := Option.bind_eq_some_iff.1 hr
    have ehy9 := G_Lcodec_extend_eq hy9
    try simp only [intsR_nil, intsR_cons, intsR_app, intsR_tk, intsR_dr, intsR_st, intsR_rep, List.map_nil, List.map_cons, List.map_append, List.map_take, List.map_drop, List.map_set, List.map_replicate, List.nil_append, List.cons_append, List.append_assoc] at ehy9
    refine ee_seq_reg rfl (by simp [-chunk, -Cell.isSl, -callOp, callOp_eq, hT71, ehy9, c8]; rfl) ?_
    refine ee_ret ?_
    obtain rfl := Option.some.inj hr
    simp [FinQ, -chunk, -Cell.isSl, -callOp, callOp_eq, hT71, ehy9, c8]
  · skip
    rw [if_neg] at hr
    rotate_left
    · simp [c8]
    refine ee_condF (by simp [bV, c8]) ?_
    refine ee_seq_reg rfl (by simp [-chunk, -Cell.isSl, -callOp, callOp_eq, c8]; rfl) ?_
    by_cases c10 : a1 < 65536
    · skip
      rw [if_pos] at hr
      rotate_left
      · simp [c8, c10]
      refine ee_condT (by simp [bV, c8, c10]) ?_
      obtain ⟨y11, hy11, hr⟩ := Option.bind_eq_some_iff.1 hr
      have ehy11 := G_Lcodec_extend_eq hy11
      try simp only [intsR_nil, intsR_cons, intsR_app, intsR_tk, intsR_dr, intsR_st, intsR_rep, List.map_nil, List.map_cons, List.map_append, List.map_take, List.map_drop, List.map_set, List.map_replicate, List.nil_append, List.cons_append, List.append_assoc] at ehy11
      obtain ⟨y12, hy12, hr⟩ := Option.bind_eq_some_iff.1 hr
      have ehy12 := G_Lcodec_AppendU16_eq hy12
      try simp only [intsR_nil, intsR_cons, intsR_app, intsR_tk, intsR_dr, intsR_st, intsR_rep, List.map_nil, List.map_cons, List.map_append, List.map_take, List.map_drop, List.map_set, List.map_replicate, List.nil_append, List.cons_append, List.append_assoc] at ehy12
      refine ee_seq_reg rfl (by simp [-chunk, -Cell.isSl, -callOp, callOp_eq, hT71, ehy11, hT73, ehy12, c8, c10]; rfl) ?_
      refine ee_ret ?_
      obtain rfl := Option.some.inj hr
      simp [FinQ, -chunk, -Cell.isSl, -callOp, callOp_eq, hT71, ehy11, hT73, ehy12, c8, c10]
    · skip
      rw [if_neg] at hr
      rotate_left
      · simp [c8, c10]
      refine ee_condF (by simp [bV, c8, c10]) ?_
      refine ee_seq_reg rfl (by simp [-chunk, -Cell.isSl, -callOp, callOp_eq, c8, c10]; rfl) ?_
      by_cases c13 : a1 < 4294967296
      · skip
        rw [if_pos] at hr
        rotate_left
        · simp [c8, c10, c13]
        refine ee_condT (by simp [bV, c8, c10, c13]) ?_
        obtain ⟨y14, hy14, hr⟩ := Option.bind_eq_some_iff.1 hr
        have ehy14 := G_Lcodec_extend_eq hy14
        try simp only [intsR_nil, intsR_cons, intsR_app, intsR_tk, intsR_dr, intsR_st, intsR_rep, List.map_nil, List.map_cons, List.map_append, List.map_take, List.map_drop, List.map_set, List.map_replicate, List.nil_append, List.cons_append, List.append_assoc] at ehy14
        obtain ⟨y15, hy15, hr⟩ := Option.bind_eq_some_iff.1 hr
        have ehy15 := G_Lcodec_AppendU32_eq hy15
        try simp only [intsR_nil, intsR_cons, intsR_app, intsR_tk, intsR_dr, intsR_st, intsR_rep, List.map_nil, List.map_cons, List.map_append, List.map_take, List.map_drop, List.map_set, List.map_replicate, List.nil_append, List.cons_append, List.append_assoc] at ehy15
        refine ee_seq_reg rfl (by simp [-chunk, -Cell.isSl, -callOp, callOp_eq, hT71, ehy14, hT57, ehy15, c8, c10, c13]; rfl) ?_
        refine ee_ret ?_
        obtain rfl := Option.some.inj hr
        simp [FinQ, -chunk, -Cell.isSl, -callOp, callOp_eq, hT71, ehy14, hT57, ehy15, c8, c10, c13]
      · skip
        rw [if_neg] at hr
        rotate_left
        · simp [c8, c10, c13]
        refine ee_condF (by simp [bV, c8, c10, c13]) ?_
        refine ee_skip ?_
        simp only [outOf, thenQ, QL, if_true, ite_true, reduceCtorEq, if_false]
        obtain ⟨y16, hy16, hr⟩ := Option.bind_eq_some_iff.1 hr
        have ehy16 := G_Lcodec_extend_eq hy16
        try simp only [intsR_nil, intsR_cons, intsR_app, intsR_tk, intsR_dr, intsR_st, intsR_rep, List.map_nil, List.map_cons, List.map_append, List.map_take, List.map_drop, List.map_set, List.map_replicate, List.nil_append, List.cons_append, List.append_assoc] at ehy16
        obtain ⟨y17, hy17, hr⟩ := Option.bind_eq_some_iff.1 hr
        have ehy17 := G_Lcodec_AppendU64_eq hy17
        try simp only [intsR_nil, intsR_cons, intsR_app, intsR_tk, intsR_dr, intsR_st, intsR_rep, List.map_nil, List.map_cons, List.map_append, List.map_take, List.map_drop, List.map_set, List.map_replicate, List.nil_append, List.cons_append, List.append_assoc] at ehy17
        refine ee_seq_reg rfl (by simp [-chunk, -Cell.isSl, -callOp, callOp_eq, hT71, ehy16, hT60, ehy17, c8, c10, c13]; rfl) ?_
        refine ee_ret ?_
        obtain rfl := Option.some.inj hr
        simp [FinQ, -chunk, -Cell.isSl, -callOp, callOp_eq, hT71, ehy16, hT60, ehy17, c8, c10, c13]
def kp74 : Keep := fun i => ⟨[], [], []⟩
theorem w74 {T : Tab} (hT71 : T 71 = some G_Lcodec_extend) (a0 : (List Int)) (a1 : (Arr 32)) (x : (List Int)) (hr : Lcodec_AppendHash a0 a1 = some x) : ∃ kp fl n, execFn tt T G kp fl n Try.f74 [.one (.slice .no (intsR .u8 a0)), .agg (arC .u8 a1)] = some (.one (.own 1 (intsR .u8 x)), []) := by
  refine fnE (kp := kp74) (w := true) body74 ?_
  unfold c74
  rw [Try.ntmps74]
  unfold Lcodec_AppendHash at hr
  refine ee_seq_reg rfl (by simp [-chunk, -Cell.isSl, -callOp, callOp_eq, ]; rfl) ?_
  obtain ⟨y2, hy2, hr⟩ := Option.bind_eq_some_iff.1 hr
  have ehy2 := G_Lcodec_extend_eq hy2
  try simp only [intsR_nil, intsR_cons, intsR_app, intsR_tk, intsR_dr, intsR_st, intsR_rep, List.map_nil, List.map_cons, List.map_append, List.map_take, List.map_drop, List.map_set, List.map_replicate, List.nil_append, List.cons_append, List.append_assoc] at ehy2
  refine ee_seq_reg rfl (by simp [-chunk, -Cell.isSl, -callOp, callOp_eq, hT71, ehy2]; rfl) ?_
  refine ee_ret ?_
  obtain rfl := Option.some.inj hr
  simp [FinQ, -chunk, -Cell.isSl, -callOp, callOp_eq, hT71, ehy2]
def kp59 : Keep := fun i => ⟨[], [], []⟩
theorem w59 {T : Tab} (hT57 : T 57 = some G_Lcodec_AppendU32) (hT74 : T 74 = some G_Lcodec_AppendHash) (a0 : Tapi_OutPoint) (x : (List Int)) (hr : Ltx_Point a0 = some x) : ∃ kp fl n, execFn tt T G kp fl n Try.f59 [.agg ((arC .u8 a0.1) ++ ((.v (.int .u32 a0.2)) :: []))] = some (.one (.own 1 (intsR .u8 x)), []) := by
  refine fnE (kp := kp59) (w := true) body59 ?_
  unfold c59
  rw [Try.ntmps59]
  unfold Ltx_Point at hr
  refine ee_seq_reg rfl (by simp [-chunk, -Cell.isSl, -callOp, callOp_eq, ]; rfl) ?_
  obtain ⟨y3, hy3, hr⟩ := Option.bind_eq_some_iff.1 hr
  have ehy3 := G_Lcodec_AppendHash_eq hy3
  try simp only [intsR_nil, intsR_cons, intsR_app, intsR_tk, intsR_dr, intsR_st, intsR_rep, List.map_nil, List.map_cons, List.map_append, List.map_take, List.map_drop, List.map_set, List.map_replicate, List.nil_append, List.cons_append, List.append_assoc] at ehy3
  obtain ⟨y4, hy4, hr⟩ := Option.bind_eq_some_iff.1 hr
  have ehy4 := G_Lcodec_AppendU32_eq hy4
  try simp only [intsR_nil, intsR_cons, intsR_app, intsR_tk, intsR_dr, intsR_st, intsR_rep, List.map_nil, List.map_cons, List.map_append, List.map_take, List.map_drop, List.map_set, List.map_replicate, List.nil_append, List.cons_append, List.append_assoc] at ehy4
  refine ee_seq_draw rfl (by simp [-chunk, -Cell.isSl, -callOp, callOp_eq, hT74, ehy3, hT57, ehy4]; first | exact ⟨rfl, rfl⟩ | rfl) (by kernel_rfl) ?_
  refine ee_ret ?_
  obtain rfl := Option.some.inj hr
  simp [FinQ, -chunk, -Cell.isSl, -callOp, callOp_eq, hT74, ehy3, hT57, ehy4]
def kp61 : Keep := fun i => ⟨[], [], []⟩
theorem w61 {T : Tab} (hT58 : T 58 = some G_Lcodec_AppendSize) (hT71 : T 71 = some G_Lcodec_extend) (a0 : (List Int)) (a1 : (List Int)) (x : (List Int)) (hr : Lcodec_AppendBytes a0 a1 = some x) : ∃ kp fl n, execFn tt T G kp fl n Try.f61 [.one (.slice .no (intsR .u8 a0)), .one (.slice .no (intsR .u8 a1))] = some (.one (.own 1 (intsR .u8 x)), []) := by
  refine fnE (kp := kp61) (w := true) body61 ?_
  unfold c61
  rw [Try.ntmps61]
  unfold Lcodec_AppendBytes at hr
  refine ee_seq_reg rfl (by simp [-chunk, -Cell.isSl, -callOp, callOp_eq, ]; rfl) ?_
  obtain ⟨y3, hy3, hr⟩ := Option.bind_eq_some_iff.1 hr
  have ehy3 := G_Lcodec_AppendSize_eq hy3
  try simp only [intsR_nil, intsR_cons, intsR_app, intsR_tk, intsR_dr, intsR_st, intsR_rep, List.map_nil, List.map_cons, List.map_append, List.map_take, List.map_drop, List.map_set, List.map_replicate, List.nil_append, List.cons_append, List.append_assoc] at ehy3
  obtain ⟨y4, hy4, hr⟩ := Option.bind_eq_some_iff.1 hr
  have ehy4 := G_Lcodec_extend_eq hy4
  try simp only [intsR_nil, intsR_cons, intsR_app, intsR_tk, intsR_dr, intsR_st, intsR_rep, List.map_nil, List.map_cons, List.map_append, List.map_take, List.map_drop, List.map_set, List.map_replicate, List.nil_append, List.cons_append, List.append_assoc] at ehy4
  refine ee_seq_reg rfl (by simp [-chunk, -Cell.isSl, -callOp, callOp_eq, hT58, ehy3, hT71, ehy4]; rfl) ?_
  refine ee_ret ?_
  obtain rfl := Option.some.inj hr
  simp [FinQ, -chunk, -Cell.isSl, -callOp, callOp_eq, hT58, ehy3, hT71, ehy4]
def kp47 : Keep := fun i => if i = 4 then ⟨[1, 2, 5, 25, 26, 27], [2, 16], []⟩ else if i = 11 then ⟨[1, 2, 5, 50, 51, 52], [2, 16], []⟩ else if i = 20 then ⟨[5, 77, 78, 79], [16], []⟩ else if i = 24 then ⟨[5, 77, 78, 79, 91, 92, 93], [16], []⟩ else ⟨[], [], []⟩
theorem w47 {T : Tab} (hT57 : T 57 = some G_Lcodec_AppendU32) (hT58 : T 58 = some G_Lcodec_AppendSize) (hT59 : T 59 = some G_Ltx_Point) (hT60 : T 60 = some G_Lcodec_AppendU64) (hT61 : T 61 = some G_Lcodec_AppendBytes) (a0 : Tapi_Tx) (a1 : Bool) (x : (List Int)) (hr : Ltx_encode a0 a1 = some x) : ∃ kp fl n, execFn tt T G kp fl n Try.f47 [.agg ([.v (.int .u32 a0.1), .slice .no (List.map eapi_Input a0.2.1), .slice .no (List.map eapi_Output a0.2.2.1), .v (.int .u32 a0.2.2.2)]), .one (.v (.bool a1))] = some (.one (.own 1 (intsR .u8 x)), []) := by
  refine fnE (kp := kp47) (w := true) body47 ?_
  unfold c47
  rw [Try.ntmps47]
  unfold Ltx_encode at hr
  refine ee_seq_reg rfl (by simp [-chunk, -Cell.isSl, -callOp, callOp_eq, ]; rfl) ?_
  obtain ⟨y127, hy127, hr⟩ := Option.bind_eq_some_iff.1 hr
  have ehy127 := G_Lcodec_AppendU32_eq hy127
  try simp only [intsR_nil, intsR_cons, intsR_app, intsR_tk, intsR_dr, intsR_st, intsR_rep, List.map_nil, List.map_cons, List.map_append, List.map_take, List.map_drop, List.map_set, List.map_replicate, List.nil_append, List.cons_append, List.append_assoc] at ehy127
  refine ee_seq_reg rfl (by simp [-chunk, -Cell.isSl, -callOp, callOp_eq, hT57, ehy127]; rfl) ?_
  obtain ⟨y128, hy128, hr⟩ := Option.bind_eq_some_iff.1 hr
  have ehy128 := G_Lcodec_AppendSize_eq hy128
  try simp only [intsR_nil, intsR_cons, intsR_app, intsR_tk, intsR_dr, intsR_st, intsR_rep, List.map_nil, List.map_cons, List.map_append, List.map_take, List.map_drop, List.map_set, List.map_replicate, List.nil_append, List.cons_append, List.append_assoc] at ehy128
  obtain ⟨_, u129, hr⟩ := Option.bind_eq_some_iff.1 hr
  have u129_0 := chk_some u129
  have n1_u129_0 : y127.length + y128.length ≤ 140737488355328 := by omega
  have n2_u129_0 : y127.length + y128.length ≤ 9223372036854775807 := by omega
  refine ee_seq_reg rfl (by simp [-chunk, -Cell.isSl, -callOp, callOp_eq, hT58, ehy128, n1_u129_0, n2_u129_0]; rfl) ?_
  refine ee_assoc ?_
  refine ee_seq_reg rfl (by simp [-chunk, -Cell.isSl, -callOp, callOp_eq, ]; rfl) ?_
  refine ee_seq_block ?_
  refine ee_loop (kq := ⟨[1, 2, 5, 25, 26, 27], [2, 16], []⟩) (H := fun (s : Int × (List Int)) => match s with | (p16, p17) => (⟨(und 1 ++ ([.one (.v (.bool a1)), .ptr 2 0 0 0 4] ++ (und 2 ++ ([.one (.ms 16 0 0 (p17.length) 1)] ++ (und 19 ++ ([.one (.slice .no (List.map eapi_Input a0.2.1)), .one (.v (.int .i64 (a0.2.1.length : Int))), .one (.v (.int .i64 p16))] ++ (und 76)))))) : List PV), ([(2, ⟨0, 4, [[.v (.int .u32 a0.1), .slice .no (List.map eapi_Input a0.2.1), .slice .no (List.map eapi_Output a0.2.2.1), .v (.int .u32 a0.2.2.2)]], false, false⟩), (16, ⟨0, 1, intsR .u8 p17, false, true⟩)] : Boxes)⟩ : ASt)) (by kernel_rfl) hr (by simp [und, List.replicate, ]) ?_
  rintro ⟨p16, p17⟩ x130r hr130
  simp only [Ltx_encode_s1] at hr130
  unfold b47_1
  simp only [und, List.replicate, List.cons_append, List.nil_append]
  refine ee_seq_reg rfl (by simp [-chunk, -Cell.isSl, -callOp, callOp_eq, ]; rfl) ?_
  by_cases c131 : p16 < (a0.2.1.length : Int)
  · skip
    have c131N := c131
    try simp at c131N
    rw [if_pos] at hr130
    rotate_left
    · simp [c131, c131N]
    refine ee_seq_condT (by simp [bV, c131, c131N]) ?_
    refine ee_seq_skip ?_
    refine ee_seq_block ?_
    obtain ⟨x132, hx132, hr130⟩ := Option.bind_eq_some_iff.1 hr130
    obtain ⟨hx132a, hx132b⟩ := idx_some hx132
    have hx132c := getE_of hx132b
    refine ee_seq_reg rfl (by simp [-chunk, -Cell.isSl, -callOp, callOp_eq, hx132a, hx132b, hx132c, c131, c131N]; rfl) ?_
    obtain ⟨y133, hy133, hr130⟩ := Option.bind_eq_some_iff.1 hr130
    have ehy133 := G_Ltx_Point_eq hy133
    try simp only [intsR_nil, intsR_cons, intsR_app, intsR_tk, intsR_dr, intsR_st, intsR_rep, List.map_nil, List.map_cons, List.map_append, List.map_take, List.map_drop, List.map_set, List.map_replicate, List.nil_append, List.cons_append, List.append_assoc] at ehy133
    obtain ⟨_, u134, hr130⟩ := Option.bind_eq_some_iff.1 hr130
    have u134_0 := chk_some u134
    have n1_u134_0 : p17.length + y133.length ≤ 140737488355328 := by omega
    have n2_u134_0 : p17.length + y133.length ≤ 9223372036854775807 := by omega
    refine ee_seq_reg rfl (by simp [-chunk, -Cell.isSl, -callOp, callOp_eq, hT59, ehy133, n1_u134_0, n2_u134_0, c131, c131N]; rfl) ?_
    obtain ⟨y135, hy135, hr130⟩ := Option.bind_eq_some_iff.1 hr130
    have ehy135 := G_Lcodec_AppendU32_eq hy135
    try simp only [intsR_nil, intsR_cons, intsR_app, intsR_tk, intsR_dr, intsR_st, intsR_rep, List.map_nil, List.map_cons, List.map_append, List.map_take, List.map_drop, List.map_set, List.map_replicate, List.nil_append, List.cons_append, List.append_assoc] at ehy135
    obtain ⟨_, u136, hr130⟩ := Option.bind_eq_some_iff.1 hr130
    have u136_0 := chk_some u136
    have n1_u136_0 : p17.length + y133.length + y135.length ≤ 140737488355328 := by omega
    have n2_u136_0 : p17.length + y133.length + y135.length ≤ 9223372036854775807 := by omega
    refine ee_reg rfl (by simp [-chunk, -Cell.isSl, -callOp, callOp_eq, hT57, ehy135, n1_u136_0, n2_u136_0, c131, c131N]; rfl) ?_
    simp only [outOf, thenQ, QL, if_true, ite_true, reduceCtorEq, if_false]
    refine ee_reg rfl (by simp [-chunk, -Cell.isSl, -callOp, callOp_eq, c131, c131N]; rfl) ?_
    obtain rfl := Option.some.inj hr130
    simp only [outOf, thenQ, QL, if_true, ite_true, reduceCtorEq, if_false]
    simp [und, List.replicate, Nat.add_assoc, c131, c131N]
  · skip
    have c131N := c131
    try simp at c131N
    rw [if_neg] at hr130
    rotate_left
    · simp [c131, c131N]
    refine ee_seq_condF (by simp [bV, c131, c131N]) ?_
    refine ee_seq_exit ?_
    obtain ⟨r137, q137, rfl⟩ := Option.map_eq_some_iff.1 hr130
    simp only [outOf, thenQ, QL, if_true, ite_true, reduceCtorEq, if_false]
    rintro rfl
    try simp only [outOf, thenQ, QL, if_true, ite_true, reduceCtorEq, if_false]
    unfold Ltx_encode_k1 at q137
    obtain ⟨y138, hy138, q137⟩ := Option.bind_eq_some_iff.1 q137
    have ehy138 := G_Lcodec_AppendSize_eq hy138
    try simp only [intsR_nil, intsR_cons, intsR_app, intsR_tk, intsR_dr, intsR_st, intsR_rep, List.map_nil, List.map_cons, List.map_append, List.map_take, List.map_drop, List.map_set, List.map_replicate, List.nil_append, List.cons_append, List.append_assoc] at ehy138
    obtain ⟨_, u139, q137⟩ := Option.bind_eq_some_iff.1 q137
    have u139_0 := chk_some u139
    have n1_u139_0 : p17.length + y138.length ≤ 140737488355328 := by omega
    have n2_u139_0 : p17.length + y138.length ≤ 9223372036854775807 := by omega
    refine ee_seq_reg rfl (by simp [-chunk, -Cell.isSl, -callOp, callOp_eq, hT58, ehy138, n1_u139_0, n2_u139_0, c131, c131N]; rfl) ?_
    refine ee_assoc ?_
    refine ee_seq_reg rfl (by simp [-chunk, -Cell.isSl, -callOp, callOp_eq, c131, c131N]; rfl) ?_
    refine ee_seq_block ?_
    refine ee_loop (kq := ⟨[1, 2, 5, 50, 51, 52], [2, 16], []⟩) (H := fun (s : Int × (List Int)) => match s with | (p37, p38) => (⟨(und 1 ++ ([.one (.v (.bool a1)), .ptr 2 0 0 0 4] ++ (und 2 ++ ([.one (.ms 16 0 0 (p38.length) 1)] ++ (und 44 ++ ([.one (.slice .no (List.map eapi_Output a0.2.2.1)), .one (.v (.int .i64 (a0.2.2.1.length : Int))), .one (.v (.int .i64 p37))] ++ (und 51)))))) : List PV), ([(2, ⟨0, 4, [[.v (.int .u32 a0.1), .slice .no (List.map eapi_Input a0.2.1), .slice .no (List.map eapi_Output a0.2.2.1), .v (.int .u32 a0.2.2.2)]], false, false⟩), (16, ⟨0, 1, intsR .u8 p38, false, true⟩)] : Boxes)⟩ : ASt)) (by kernel_rfl) q137 (by simp [und, List.replicate, c131, c131N]) ?_
    rintro ⟨p37, p38⟩ x140r hr140
    simp only [Ltx_encode_s2] at hr140
    unfold b47_2
    simp only [und, List.replicate, List.cons_append, List.nil_append]
    refine ee_seq_reg rfl (by simp [-chunk, -Cell.isSl, -callOp, callOp_eq, c131, c131N]; rfl) ?_
    by_cases c141 : p37 < (a0.2.2.1.length : Int)
    · skip
      have c141N := c141
      try simp at c141N
      rw [if_pos] at hr140
      rotate_left
      · simp [c131, c131N, c141, c141N]
      refine ee_seq_condT (by simp [bV, c131, c131N, c141, c141N]) ?_
      refine ee_seq_skip ?_
      refine ee_seq_block ?_
      obtain ⟨x142, hx142, hr140⟩ := Option.bind_eq_some_iff.1 hr140
      obtain ⟨hx142a, hx142b⟩ := idx_some hx142
      have hx142c := getE_of hx142b
      refine ee_seq_reg rfl (by simp [-chunk, -Cell.isSl, -callOp, callOp_eq, hx142a, hx142b, hx142c, c131, c131N, c141, c141N]; rfl) ?_
      obtain ⟨y143, hy143, hr140⟩ := Option.bind_eq_some_iff.1 hr140
      have ehy143 := G_Lcodec_AppendU64_eq hy143
      try simp only [intsR_nil, intsR_cons, intsR_app, intsR_tk, intsR_dr, intsR_st, intsR_rep, List.map_nil, List.map_cons, List.map_append, List.map_take, List.map_drop, List.map_set, List.map_replicate, List.nil_append, List.cons_append, List.append_assoc] at ehy143
      obtain ⟨_, u144, hr140⟩ := Option.bind_eq_some_iff.1 hr140
      have u144_0 := chk_some u144
      have n1_u144_0 : p38.length + y143.length ≤ 140737488355328 := by omega
      have n2_u144_0 : p38.length + y143.length ≤ 9223372036854775807 := by omega
      refine ee_seq_reg rfl (by simp [-chunk, -Cell.isSl, -callOp, callOp_eq, hT60, ehy143, n1_u144_0, n2_u144_0, c131, c131N, c141, c141N]; rfl) ?_
      obtain ⟨y145, hy145, hr140⟩ := Option.bind_eq_some_iff.1 hr140
      have ehy145 := G_Lcodec_AppendBytes_eq hy145
      try simp only [intsR_nil, intsR_cons, intsR_app, intsR_tk, intsR_dr, intsR_st, intsR_rep, List.map_nil, List.map_cons, List.map_append, List.map_take, List.map_drop, List.map_set, List.map_replicate, List.nil_append, List.cons_append, List.append_assoc] at ehy145
      obtain ⟨_, u146, hr140⟩ := Option.bind_eq_some_iff.1 hr140
      have u146_0 := chk_some u146
      have n1_u146_0 : p38.length + y143.length + y145.length ≤ 140737488355328 := by omega
      have n2_u146_0 : p38.length + y143.length + y145.length ≤ 9223372036854775807 := by omega
      refine ee_reg rfl (by simp [-chunk, -Cell.isSl, -callOp, callOp_eq, hT61, ehy145, n1_u146_0, n2_u146_0, c131, c131N, c141, c141N]; rfl) ?_
      simp only [outOf, thenQ, QL, if_true, ite_true, reduceCtorEq, if_false]
      refine ee_reg rfl (by simp [-chunk, -Cell.isSl, -callOp, callOp_eq, c131, c131N, c141, c141N]; rfl) ?_
      obtain rfl := Option.some.inj hr140
      simp only [outOf, thenQ, QL, if_true, ite_true, reduceCtorEq, if_false]
      simp [und, List.replicate, Nat.add_assoc, c131, c131N, c141, c141N]
    · skip
      have c141N := c141
      try simp at c141N
      rw [if_neg] at hr140
      rotate_left
      · simp [c131, c131N, c141, c141N]
      refine ee_seq_condF (by simp [bV, c131, c131N, c141, c141N]) ?_
      refine ee_seq_exit ?_
      obtain ⟨r147, q147, rfl⟩ := Option.map_eq_some_iff.1 hr140
      simp only [outOf, thenQ, QL, if_true, ite_true, reduceCtorEq, if_false]
      rintro rfl
      try simp only [outOf, thenQ, QL, if_true, ite_true, reduceCtorEq, if_false]
      unfold Ltx_encode_k2 at q147
      obtain ⟨y148, hy148, q147⟩ := Option.bind_eq_some_iff.1 q147
      have ehy148 := G_Lcodec_AppendU32_eq hy148
      try simp only [intsR_nil, intsR_cons, intsR_app, intsR_tk, intsR_dr, intsR_st, intsR_rep, List.map_nil, List.map_cons, List.map_append, List.map_take, List.map_drop, List.map_set, List.map_replicate, List.nil_append, List.cons_append, List.append_assoc] at ehy148
      obtain ⟨_, u149, q147⟩ := Option.bind_eq_some_iff.1 q147
      have u149_0 := chk_some u149
      have n1_u149_0 : p38.length + y148.length ≤ 140737488355328 := by omega
      have n2_u149_0 : p38.length + y148.length ≤ 9223372036854775807 := by omega
      refine ee_seq_reg rfl (by simp [-chunk, -Cell.isSl, -callOp, callOp_eq, hT57, ehy148, n1_u149_0, n2_u149_0, c131, c131N, c141, c141N]; rfl) ?_
      refine ee_assoc ?_
      refine ee_seq_reg rfl (by simp [-chunk, -Cell.isSl, -callOp, callOp_eq, c131, c131N, c141, c141N]; rfl) ?_
      by_cases c150 : a1 = true
      · skip
        rw [if_neg] at q147
        rotate_left
        · simp [c131, c131N, c141, c141N, c150]
        refine ee_seq_condF (by simp [bV, c131, c131N, c141, c141N, c150]) ?_
        refine ee_seq_skip ?_
        refine ee_assoc ?_
        refine ee_seq_reg rfl (by simp [-chunk, -Cell.isSl, -callOp, callOp_eq, c131, c131N, c141, c141N, c150]; rfl) ?_
        refine ee_seq_block ?_
        refine ee_loop (kq := ⟨[5, 77, 78, 79], [16], []⟩) (H := fun (s : Int × (List Int)) => match s with | (p80, p81) => (⟨(und 5 ++ ([.one (.ms 16 0 0 (p81.length) 1)] ++ (und 71 ++ ([.one (.slice .no (List.map eapi_Input a0.2.1)), .one (.v (.int .i64 (a0.2.1.length : Int))), .one (.v (.int .i64 p80))] ++ (und 24)))) : List PV), ([(16, ⟨0, 1, intsR .u8 p81, false, true⟩)] : Boxes)⟩ : ASt)) (by kernel_rfl) q147 (by simp [und, List.replicate, c131, c131N, c141, c141N, c150]) ?_
        rintro ⟨p80, p81⟩ x151r hr151
        simp only [Ltx_encode_s3] at hr151
        unfold b47_3
        simp only [und, List.replicate, List.cons_append, List.nil_append]
        refine ee_seq_reg rfl (by simp [-chunk, -Cell.isSl, -callOp, callOp_eq, c131, c131N, c141, c141N, c150]; rfl) ?_
        by_cases c152 : p80 < (a0.2.1.length : Int)
        · skip
          have c152N := c152
          try simp at c152N
          rw [if_pos] at hr151
          rotate_left
          · simp [c131, c131N, c141, c141N, c150, c152, c152N]
          refine ee_seq_condT (by simp [bV, c131, c131N, c141, c141N, c150, c152, c152N]) ?_
          refine ee_seq_skip ?_
          refine ee_seq_block ?_
          obtain ⟨x153, hx153, hr151⟩ := Option.bind_eq_some_iff.1 hr151
          obtain ⟨hx153a, hx153b⟩ := idx_some hx153
          have hx153c := getE_of hx153b
          refine ee_seq_reg rfl (by simp [-chunk, -Cell.isSl, -callOp, callOp_eq, hx153a, hx153b, hx153c, c131, c131N, c141, c141N, c150, c152, c152N]; rfl) ?_
          obtain ⟨y154, hy154, hr151⟩ := Option.bind_eq_some_iff.1 hr151
          have ehy154 := G_Lcodec_AppendSize_eq hy154
          try simp only [intsR_nil, intsR_cons, intsR_app, intsR_tk, intsR_dr, intsR_st, intsR_rep, List.map_nil, List.map_cons, List.map_append, List.map_take, List.map_drop, List.map_set, List.map_replicate, List.nil_append, List.cons_append, List.append_assoc] at ehy154
          obtain ⟨_, u155, hr151⟩ := Option.bind_eq_some_iff.1 hr151
          have u155_0 := chk_some u155
          have n1_u155_0 : p81.length + y154.length ≤ 140737488355328 := by omega
          have n2_u155_0 : p81.length + y154.length ≤ 9223372036854775807 := by omega
          refine ee_seq_reg rfl (by simp [-chunk, -Cell.isSl, -callOp, callOp_eq, hT58, ehy154, n1_u155_0, n2_u155_0, c131, c131N, c141, c141N, c150, c152, c152N]; rfl) ?_
          refine ee_seq_reg rfl (by simp [-chunk, -Cell.isSl, -callOp, callOp_eq, c131, c131N, c141, c141N, c150, c152, c152N]; rfl) ?_
          refine ee_block ?_
          refine ee_loop (kq := ⟨[5, 77, 78, 79, 91, 92, 93], [16], []⟩) (H := fun (s : Int × (List Int)) => match s with | (p109, p110) => (⟨(und 5 ++ ([.one (.ms 16 0 0 (p110.length) 1)] ++ (und 71 ++ ([.one (.slice .no (List.map eapi_Input a0.2.1)), .one (.v (.int .i64 (a0.2.1.length : Int))), .one (.v (.int .i64 p80))] ++ (und 11 ++ ([.one (.slice .no (List.map eS_I_u8 x153.2.2)), .one (.v (.int .i64 (x153.2.2.length : Int))), .one (.v (.int .i64 p109))] ++ (und 10)))))) : List PV), ([(16, ⟨0, 1, intsR .u8 p110, false, true⟩)] : Boxes)⟩ : ASt)) (by kernel_rfl) hr151 (by simp [und, List.replicate, c131, c131N, c141, c141N, c150, c152, c152N]) ?_
          rintro ⟨p109, p110⟩ x156r hr156
          simp only [Ltx_encode_s4] at hr156
          unfold b47_4
          simp only [und, List.replicate, List.cons_append, List.nil_append]
          refine ee_seq_reg rfl (by simp [-chunk, -Cell.isSl, -callOp, callOp_eq, c131, c131N, c141, c141N, c150, c152, c152N]; rfl) ?_
          by_cases c157 : p109 < (x153.2.2.length : Int)
          · skip
            have c157N := c157
            try simp at c157N
            rw [if_pos] at hr156
            rotate_left
            · simp [c131, c131N, c141, c141N, c150, c152, c152N, c157, c157N]
            refine ee_seq_condT (by simp [bV, c131, c131N, c141, c141N, c150, c152, c152N, c157, c157N]) ?_
            refine ee_seq_skip ?_
            refine ee_seq_block ?_
            obtain ⟨x158, hx158, hr156⟩ := Option.bind_eq_some_iff.1 hr156
            obtain ⟨hx158a, hx158b⟩ := idx_some hx158
            have hx158c := getE_of hx158b
            refine ee_seq_reg rfl (by simp [-chunk, -Cell.isSl, -callOp, callOp_eq, hx158a, hx158b, hx158c, c131, c131N, c141, c141N, c150, c152, c152N, c157, c157N]; rfl) ?_
            obtain ⟨y159, hy159, hr156⟩ := Option.bind_eq_some_iff.1 hr156
            have ehy159 := G_Lcodec_AppendBytes_eq hy159
            try simp only [intsR_nil, intsR_cons, intsR_app, intsR_tk, intsR_dr, intsR_st, intsR_rep, List.map_nil, List.map_cons, List.map_append, List.map_take, List.map_drop, List.map_set, List.map_replicate, List.nil_append, List.cons_append, List.append_assoc] at ehy159
            obtain ⟨_, u160, hr156⟩ := Option.bind_eq_some_iff.1 hr156
            have u160_0 := chk_some u160
            have n1_u160_0 : p110.length + y159.length ≤ 140737488355328 := by omega
            have n2_u160_0 : p110.length + y159.length ≤ 9223372036854775807 := by omega
            refine ee_reg rfl (by simp [-chunk, -Cell.isSl, -callOp, callOp_eq, hT61, ehy159, n1_u160_0, n2_u160_0, c131, c131N, c141, c141N, c150, c152, c152N, c157, c157N]; rfl) ?_
            simp only [outOf, thenQ, QL, if_true, ite_true, reduceCtorEq, if_false]
            refine ee_reg rfl (by simp [-chunk, -Cell.isSl, -callOp, callOp_eq, c131, c131N, c141, c141N, c150, c152, c152N, c157, c157N]; rfl) ?_
            obtain rfl := Option.some.inj hr156
            simp only [outOf, thenQ, QL, if_true, ite_true, reduceCtorEq, if_false]
            simp [und, List.replicate, Nat.add_assoc, c131, c131N, c141, c141N, c150, c152, c152N, c157, c157N]
          · skip
            have c157N := c157
            try simp at c157N
            rw [if_neg] at hr156
            rotate_left
            · simp [c131, c131N, c141, c141N, c150, c152, c152N, c157, c157N]
            refine ee_seq_condF (by simp [bV, c131, c131N, c141, c141N, c150, c152, c152N, c157, c157N]) ?_
            refine ee_seq_exit ?_
            obtain ⟨r161, q161, rfl⟩ := Option.map_eq_some_iff.1 hr156
            simp only [outOf, thenQ, QL, if_true, ite_true, reduceCtorEq, if_false]
            rintro rfl
            try simp only [outOf, thenQ, QL, if_true, ite_true, reduceCtorEq, if_false]
            unfold Ltx_encode_k4 at q161
            refine ee_reg rfl (by simp [-chunk, -Cell.isSl, -callOp, callOp_eq, c131, c131N, c141, c141N, c150, c152, c152N, c157, c157N]; rfl) ?_
            obtain rfl := Option.some.inj q161
            simp only [outOf, thenQ, QL, if_true, ite_true, reduceCtorEq, if_false]
            simp [und, List.replicate, Nat.add_assoc, c131, c131N, c141, c141N, c150, c152, c152N, c157, c157N]
        · skip
          have c152N := c152
          try simp at c152N
          rw [if_neg] at hr151
          rotate_left
          · simp [c131, c131N, c141, c141N, c150, c152, c152N]
          refine ee_seq_condF (by simp [bV, c131, c131N, c141, c141N, c150, c152, c152N]) ?_
          refine ee_seq_exit ?_
          obtain ⟨r162, q162, rfl⟩ := Option.map_eq_some_iff.1 hr151
          simp only [outOf, thenQ, QL, if_true, ite_true, reduceCtorEq, if_false]
          rintro rfl
          try simp only [outOf, thenQ, QL, if_true, ite_true, reduceCtorEq, if_false]
          unfold Ltx_encode_k3 at q162
          refine ee_seq_reg rfl (by simp [-chunk, -Cell.isSl, -callOp, callOp_eq, c131, c131N, c141, c141N, c150, c152, c152N]; rfl) ?_
          refine ee_ret ?_
          obtain rfl := Option.some.inj q162
          simp [FinQ, -chunk, -Cell.isSl, -callOp, callOp_eq, c131, c131N, c141, c141N, c150, c152, c152N]
      · skip
        rw [if_pos] at q147
        rotate_left
        · simp [c131, c131N, c141, c141N, c150]
        refine ee_seq_condT (by simp [bV, c131, c131N, c141, c141N, c150]) ?_
        refine ee_assoc ?_
        refine ee_seq_reg rfl (by simp [-chunk, -Cell.isSl, -callOp, callOp_eq, c131, c131N, c141, c141N, c150]; rfl) ?_
        refine ee_seq_ret ?_
        obtain rfl := Option.some.inj q147
        simp [FinQ, -chunk, -Cell.isSl, -callOp, callOp_eq, c131, c131N, c141, c141N, c150]
end Go.Proofs.Ytanhccemhpmnhaa
