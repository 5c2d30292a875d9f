import Derived.Test.YtanhccemhpmnhaaLfK
import Derived.Test.YtanhccemhpmnhaaCode
namespace Go.Proofs.Ytanhccemhpmnhaa
open Go.RowKit
open Go.Av
open Go.Lc
set_option maxRecDepth 100000
set_option linter.unusedSimpArgs false
set_option linter.unusedVariables false
variable {G : Glob}
theorem cnil31 (c : Nat) (w : World) : Calls Try.prog 31 #[.slice none 0 c] w fun e w' => e = .returned (.slice none 0 0) ∧ w' = w := by
  have h1 : ∀ w, (binOp .eql 38 (.slice none 0 c) (.slice none 0 0)).run Try.prog w = .ok (.bool true) w := fun w => by
    have h : ∀ d : Nat, (Op.equalIn (d + 1) 38 (.slice none 0 c) (.slice none 0 0)).run Try.prog w = .ok true w := fun d => by
      simp [Op.equalIn, run_underlying Try.underlying38]
    have h' : (Op.equal 38 (.slice none 0 c) (.slice none 0 0)).run Try.prog w = .ok true w := h 9999
    simp [binOp, h']
  go_enter Try.func31, Try.ntmps31
  go_wp2
  go_ret
  exact ⟨rfl, rfl⟩
theorem csome31 (b : Addr) (c : Nat) (w : World) : Calls Try.prog 31 #[.slice (some b) 0 c] w fun e w' => e = .returned (.slice (some ⟨w.heap.size, 0, none⟩) 0 0) ∧ w' = w.alloc (.cells #[] 59) := by
  have h1 : ∀ w, (binOp .eql 38 (.slice (some b) 0 c) (.slice none 0 0)).run Try.prog w = .ok (.bool false) w := fun w => by
    have h : (Op.equal 38 (.slice (some b) 0 c) (.slice none 0 0)).run Try.prog w = .ok false w := eqIn_slice 9999 Try.underlying38
    simp [binOp, h]
  have h2 : ∀ w, (Instr.buildSlice 38 0 #[]).run Try.prog w = .ok (.slice (some ⟨w.heap.size, 0, none⟩) 0 0) (w.alloc (.cells #[] 59)) := fun w => by kernel_rfl
  have hi0 : (Try.prog.info? 59).isSome = true := by kernel_rfl
  obtain ⟨i, hi⟩ := Option.isSome_iff_exists.1 hi0
  have h3 : ∀ (w : World) (x : Option Addr) ty, (Builtin.append_ #[38, 38] ty #[.slice x 0 0, .slice (some b) 0 c]).run Try.prog w = .ok (.slice x 0 0) w := fun w x ty => run_append_zero w 38 ty 59 i Try.underlying38 hi x (some b) 0 0 c (Nat.le_refl _)
  clear hi hi0
  go_enter Try.func31, Try.ntmps31
  go_wp2
  go_ret
  exact ⟨rfl, rfl⟩
def kp31 : Keep := fun i => ⟨[], [], []⟩
theorem w31 {T : Tab} (a0 : (List Tapi_Input)) (hne : a0 ≠ []) (x : (List Tapi_Input)) (hr : Lslices_Clone_of__api_Input_api_Input a0 = some x) : ∃ kp fl n, execFn tt T G kp fl n Try.f31 [.one (.slice .no (List.map eapi_Input a0))] = some (.one (.own 35 (List.map eapi_Input a0)), []) := by
  refine fnE (kp := kp31) (w := true) body31 ?_
  unfold c31
  rw [Try.ntmps31]
  unfold Lslices_Clone_of__api_Input_api_Input at hr
  obtain ⟨_, u1, hr⟩ := Option.bind_eq_some_iff.1 hr
  have u2 := chk_some u1
  have n1 : a0.length * 64 ≤ 140737488355328 := by omega
  have n2 : a0.length ≤ 9223372036854775807 := by omega
  have ne : List.map eapi_Input a0 ≠ [] := fun h => hne (by simpa [intsR] using h)
  refine ee_seq_reg rfl (by simp [-chunk, -Cell.isSl, -callOp, callOp_eq]; rfl) ?_
  first
  | (refine ee_assoc ?_
     refine ee_seq_reg rfl (by simp [-chunk, -Cell.isSl, -callOp, callOp_eq, hne, ne]; rfl) ?_)
  | refine ee_seq_reg rfl (by simp [-chunk, -Cell.isSl, -callOp, callOp_eq, hne, ne]; rfl) ?_
  refine ee_seq_condF (by simp [bV]) ?_
  refine ee_seq_skip ?_
  refine ee_seq_reg rfl (by simp [-chunk, -Cell.isSl, -callOp, callOp_eq, n1, n2]; rfl) ?_
  refine ee_ret ?_
  simp [FinQ, -chunk, -Cell.isSl, -callOp, callOp_eq]
theorem v31 : Impl Try.prog G 31 G_Lslices_Clone_of__api_Input_api_Input := by
  refine clone_impl (e := 35) (t := 59) (N := 0) (rows := fun l : (List Tapi_Input) => List.map eapi_Input l) Try.func31 (by kernel_rfl) (by kernel_rfl) G_Lslices_Clone_of__api_Input_api_Input (fun ps r hF => ?_) rfl (fun l hl r hF => ?_) (fun x c w => ?_)
  · obtain ⟨x, rfl, h⟩ := lift_inv hF
    obtain ⟨y, hy, rfl⟩ := Option.map_eq_some_iff.1 h
    unfold Lslices_Clone_of__api_Input_api_Input at hy
    obtain ⟨_, u1, hy⟩ := Option.bind_eq_some_iff.1 hy
    obtain rfl := Option.some.inj hy
    exact ⟨x, rfl, rfl⟩
  · refine impl_of (T := Av.tab []) mixed htt (Av.tab_ok trivial) Try.func31 body31 (by kernel_rfl) fun ps r' ho hF' => ?_
    split at hF'
    · rename_i hps
      subst hps
      injection hF' with hF'
      subst hF'
      obtain ⟨x, hx, h⟩ := lift_inv hF
      obtain rfl := E_Lslices_Clone_of__api_Input_api_Input_inj l x hx
      obtain ⟨y, hy, rfl⟩ := Option.map_eq_some_iff.1 h
      have hy' := hy
      unfold Lslices_Clone_of__api_Input_api_Input at hy'
      obtain ⟨_, u1, hy'⟩ := Option.bind_eq_some_iff.1 hy'
      obtain rfl := Option.some.inj hy'
      exact w31 l hl _ hy
    · cases hF'
  · cases x with
    | none => exact (cnil31 c w).mono fun e w' h => ⟨none, h.1, .inl h.2⟩
    | some b => exact (csome31 b c w).mono fun e w' h => ⟨_, h.1, .inr h.2⟩
def kp71 : Keep := fun i => ⟨[], [], []⟩
theorem w71 {T : Tab} (a0 : (List Int)) (a1 : (List Int)) (x : (List Int)) (hr : Lcodec_extend a0 a1 = some x) : ∃ kp fl n, execFn tt T G kp fl n Try.f71 [.one (.slice .no (intsR .u8 a0)), .one (.slice .no (intsR .u8 a1))] = some (.one (.own 1 (intsR .u8 x)), []) := by
  refine fnE (kp := kp71) (w := true) body71 ?_
  unfold c71
  rw [Try.ntmps71]
  unfold Lcodec_extend at hr
  refine ee_seq_reg rfl (by simp [-chunk, -Cell.isSl, -callOp, callOp_eq, ]; rfl) ?_
  obtain ⟨_, u4, hr⟩ := Option.bind_eq_some_iff.1 hr
  obtain ⟨u4_0, u4_1⟩ := chk_some u4
  have mf5 : 0 ≤ (IntKind.i64.wrap ((a0.length : Int) + (a1.length : Int))).toNat := by omega
  have mf6 : (IntKind.i64.wrap ((a0.length : Int) + (a1.length : Int))).toNat ≤ 140737488355328 := by omega
  have mf7 : (IntKind.i64.wrap ((a0.length : Int) + (a1.length : Int))).toNat ≤ 9223372036854775807 := by omega
  have mf8 : 0 ≤ IntKind.i64.wrap ((a0.length : Int) + (a1.length : Int)) := by omega
  refine ee_seq_reg rfl (by simp [-chunk, -Cell.isSl, -callOp, callOp_eq, u4_0, u4_1, mf5, mf6, mf7, mf8]; rfl) ?_
  obtain ⟨_, u9, hr⟩ := Option.bind_eq_some_iff.1 hr
  have u9_0 := chk_some u9
  have n1_u9_0 : a0.length ≤ 140737488355328 := by omega
  have n2_u9_0 : a0.length ≤ 9223372036854775807 := by omega
  refine ee_seq_reg rfl (by simp [-chunk, -Cell.isSl, -callOp, callOp_eq, n1_u9_0, n2_u9_0]; rfl) ?_
  obtain ⟨_, u10, hr⟩ := Option.bind_eq_some_iff.1 hr
  have u10_0 := chk_some u10
  have n1_u10_0 : a0.length + a1.length ≤ 140737488355328 := by omega
  have n2_u10_0 : a0.length + a1.length ≤ 9223372036854775807 := by omega
  refine ee_seq_reg rfl (by simp [-chunk, -Cell.isSl, -callOp, callOp_eq, n1_u10_0, n2_u10_0]; rfl) ?_
  refine ee_ret ?_
  obtain rfl := Option.some.inj hr
  simp [FinQ, -chunk, -Cell.isSl, -callOp, callOp_eq, n1_u10_0, n2_u10_0]
def kp72 : Keep := fun i => if i = 3 then ⟨[0, 5, 9, 10], [8], []⟩ else ⟨[], [], []⟩
theorem w72 {T : Tab} (a0 : Int) (a1 : Int) (x : (List Int)) (hr : Lcodec_lowest a0 a1 = some x) : ∃ kp fl n, execFn tt T G kp fl n Try.f72 [.one (.v (.int .u64 a0)), .one (.v (.int .i64 a1))] = some (.one (.own 1 (intsR .u8 x)), []) := by
  refine fnE (kp := kp72) (w := true) body72 ?_
  unfold c72
  rw [Try.ntmps72]
  unfold Lcodec_lowest at hr
  refine ee_seq_reg rfl (by simp [-chunk, -Cell.isSl, -callOp, callOp_eq, ]; rfl) ?_
  obtain ⟨_, u14, hr⟩ := Option.bind_eq_some_iff.1 hr
  obtain ⟨u14_0, u14_1⟩ := chk_some u14
  have mf15 : (a1).toNat ≤ 140737488355328 := by omega
  have mf16 : (a1).toNat ≤ 9223372036854775807 := by omega
  have mf17 : 0 ≤ a1 := by omega
  refine ee_seq_reg rfl (by simp [-chunk, -Cell.isSl, -callOp, callOp_eq, u14_0, u14_1, mf15, mf16, mf17]; rfl) ?_
  refine ee_assoc ?_
  refine ee_seq_reg rfl (by simp [-chunk, -Cell.isSl, -callOp, callOp_eq, ]; rfl) ?_
  refine ee_seq_block ?_
  refine ee_loop (kq := ⟨[0, 5, 9, 10], [8], []⟩) (H := fun (s : Int × (List Int)) => match s with | (p8, p9) => (⟨([.one (.v (.int .u64 a0))] ++ (und 4 ++ ([.one (.ms 8 0 0 (p9.length) 1)] ++ (und 3 ++ ([.one (.v (.int .i64 a1)), .one (.v (.int .i64 p8))] ++ (und 12))))) : List PV), ([(8, ⟨0, 1, intsR .u8 p9, false, true⟩)] : Boxes)⟩ : ASt)) (by kernel_rfl) hr (by simp [und, List.replicate, ]) ?_
  rintro ⟨p8, p9⟩ x18r hr18
  simp only [Lcodec_lowest_s1] at hr18
  unfold b72_1
  simp only [und, List.replicate, List.cons_append, List.nil_append]
  refine ee_seq_reg rfl (by simp [-chunk, -Cell.isSl, -callOp, callOp_eq, ]; rfl) ?_
  by_cases c19 : p8 < a1
  · skip
    rw [if_pos] at hr18
    rotate_left
    · simp [c19]
    refine ee_seq_condT (by simp [bV, c19]) ?_
    refine ee_seq_skip ?_
    refine ee_seq_block ?_
    refine ee_seq_reg rfl (by simp [-chunk, -Cell.isSl, -callOp, callOp_eq, c19]; rfl) ?_
    obtain ⟨_, u20, hr18⟩ := Option.bind_eq_some_iff.1 hr18
    have u20_0 := chk_some u20
    obtain ⟨j21, hj21, hr18⟩ := Option.bind_eq_some_iff.1 hr18
    obtain ⟨j21a, j21b, j21c⟩ := inA_some hj21
    refine ee_reg rfl (by simp [-chunk, -Cell.isSl, -callOp, callOp_eq, u20_0, j21a, j21b, j21c, c19]; rfl) ?_
    simp only [outOf, thenQ, QL, if_true, ite_true, reduceCtorEq, if_false]
    refine ee_reg rfl (by simp [-chunk, -Cell.isSl, -callOp, callOp_eq, c19]; rfl) ?_
    obtain rfl := Option.some.inj hr18
    simp only [outOf, thenQ, QL, if_true, ite_true, reduceCtorEq, if_false]
    simp [und, List.replicate, Nat.add_assoc, c19]
  · skip
    rw [if_neg] at hr18
    rotate_left
    · simp [c19]
    refine ee_seq_condF (by simp [bV, c19]) ?_
    refine ee_seq_exit ?_
    obtain ⟨r22, q22, rfl⟩ := Option.map_eq_some_iff.1 hr18
    simp only [outOf, thenQ, QL, if_true, ite_true, reduceCtorEq, if_false]
    rintro rfl
    try simp only [outOf, thenQ, QL, if_true, ite_true, reduceCtorEq, if_false]
    unfold Lcodec_lowest_k1 at q22
    refine ee_seq_reg rfl (by simp [-chunk, -Cell.isSl, -callOp, callOp_eq, c19]; rfl) ?_
    refine ee_ret ?_
    obtain rfl := Option.some.inj q22
    simp [FinQ, -chunk, -Cell.isSl, -callOp, callOp_eq, c19]
def kp57 : Keep := fun i => ⟨[], [], []⟩
theorem w57 {T : Tab} (hT71 : T 71 = some G_Lcodec_extend) (hT72 : T 72 = some G_Lcodec_lowest) (a0 : (List Int)) (a1 : Int) (x : (List Int)) (hr : Lcodec_AppendU32 a0 a1 = some x) : ∃ kp fl n, execFn tt T G kp fl n Try.f57 [.one (.slice .no (intsR .u8 a0)), .one (.v (.int .u32 a1))] = some (.one (.own 1 (intsR .u8 x)), []) := by
  refine fnE (kp := kp57) (w := true) body57 ?_
  unfold c57
  rw [Try.ntmps57]
  unfold Lcodec_AppendU32 at hr
  refine ee_seq_reg rfl (by simp [-chunk, -Cell.isSl, -callOp, callOp_eq, ]; rfl) ?_
  obtain ⟨y3, hy3, hr⟩ := Option.bind_eq_some_iff.1 hr
  have ehy3 := G_Lcodec_lowest_eq hy3
  try simp only [intsR_nil, intsR_cons, intsR_app, intsR_tk, intsR_dr, intsR_st, intsR_rep, List.map_nil, List.map_cons, List.map_append, List.map_take, List.map_drop, List.map_set, List.map_replicate, List.nil_append, List.cons_append, List.append_assoc, eapi_Input, eapi_Output, eapi_Spendable] at ehy3
  obtain ⟨y4, hy4, hr⟩ := Option.bind_eq_some_iff.1 hr
  have ehy4 := G_Lcodec_extend_eq hy4
  try simp only [intsR_nil, intsR_cons, intsR_app, intsR_tk, intsR_dr, intsR_st, intsR_rep, List.map_nil, List.map_cons, List.map_append, List.map_take, List.map_drop, List.map_set, List.map_replicate, List.nil_append, List.cons_append, List.append_assoc, eapi_Input, eapi_Output, eapi_Spendable] at ehy4
  refine ee_seq_reg rfl (by simp [-chunk, -Cell.isSl, -callOp, callOp_eq, hT72, ehy3, hT71, ehy4]; rfl) ?_
  refine ee_ret ?_
  obtain rfl := Option.some.inj hr
  simp [FinQ, -chunk, -Cell.isSl, -callOp, callOp_eq, hT72, ehy3, hT71, ehy4]
def kp60 : Keep := fun i => ⟨[], [], []⟩
theorem w60 {T : Tab} (hT71 : T 71 = some G_Lcodec_extend) (hT72 : T 72 = some G_Lcodec_lowest) (a0 : (List Int)) (a1 : Int) (x : (List Int)) (hr : Lcodec_AppendU64 a0 a1 = some x) : ∃ kp fl n, execFn tt T G kp fl n Try.f60 [.one (.slice .no (intsR .u8 a0)), .one (.v (.int .u64 a1))] = some (.one (.own 1 (intsR .u8 x)), []) := by
  refine fnE (kp := kp60) (w := true) body60 ?_
  unfold c60
  rw [Try.ntmps60]
  unfold Lcodec_AppendU64 at hr
  refine ee_seq_reg rfl (by simp [-chunk, -Cell.isSl, -callOp, callOp_eq, ]; rfl) ?_
  obtain ⟨y3, hy3, hr⟩ := Option.bind_eq_some_iff.1 hr
  have ehy3 := G_Lcodec_lowest_eq hy3
  try simp only [intsR_nil, intsR_cons, intsR_app, intsR_tk, intsR_dr, intsR_st, intsR_rep, List.map_nil, List.map_cons, List.map_append, List.map_take, List.map_drop, List.map_set, List.map_replicate, List.nil_append, List.cons_append, List.append_assoc, eapi_Input, eapi_Output, eapi_Spendable] at ehy3
  obtain ⟨y4, hy4, hr⟩ := Option.bind_eq_some_iff.1 hr
  have ehy4 := G_Lcodec_extend_eq hy4
  try simp only [intsR_nil, intsR_cons, intsR_app, intsR_tk, intsR_dr, intsR_st, intsR_rep, List.map_nil, List.map_cons, List.map_append, List.map_take, List.map_drop, List.map_set, List.map_replicate, List.nil_append, List.cons_append, List.append_assoc, eapi_Input, eapi_Output, eapi_Spendable] at ehy4
  refine ee_seq_reg rfl (by simp [-chunk, -Cell.isSl, -callOp, callOp_eq, hT72, ehy3, hT71, ehy4]; rfl) ?_
  refine ee_ret ?_
  obtain rfl := Option.some.inj hr
  simp [FinQ, -chunk, -Cell.isSl, -callOp, callOp_eq, hT72, ehy3, hT71, ehy4]
def kp73 : Keep := fun i => ⟨[], [], []⟩
theorem w73 {T : Tab} (hT71 : T 71 = some G_Lcodec_extend) (hT72 : T 72 = some G_Lcodec_lowest) (a0 : (List Int)) (a1 : Int) (x : (List Int)) (hr : Lcodec_AppendU16 a0 a1 = some x) : ∃ kp fl n, execFn tt T G kp fl n Try.f73 [.one (.slice .no (intsR .u8 a0)), .one (.v (.int .u16 a1))] = some (.one (.own 1 (intsR .u8 x)), []) := by
  refine fnE (kp := kp73) (w := true) body73 ?_
  unfold c73
  rw [Try.ntmps73]
  unfold Lcodec_AppendU16 at hr
  refine ee_seq_reg rfl (by simp [-chunk, -Cell.isSl, -callOp, callOp_eq, ]; rfl) ?_
  obtain ⟨y3, hy3, hr⟩ := Option.bind_eq_some_iff.1 hr
  have ehy3 := G_Lcodec_lowest_eq hy3
  try simp only [intsR_nil, intsR_cons, intsR_app, intsR_tk, intsR_dr, intsR_st, intsR_rep, List.map_nil, List.map_cons, List.map_append, List.map_take, List.map_drop, List.map_set, List.map_replicate, List.nil_append, List.cons_append, List.append_assoc, eapi_Input, eapi_Output, eapi_Spendable] at ehy3
  obtain ⟨y4, hy4, hr⟩ := Option.bind_eq_some_iff.1 hr
  have ehy4 := G_Lcodec_extend_eq hy4
  try simp only [intsR_nil, intsR_cons, intsR_app, intsR_tk, intsR_dr, intsR_st, intsR_rep, List.map_nil, List.map_cons, List.map_append, List.map_take, List.map_drop, List.map_set, List.map_replicate, List.nil_append, List.cons_append, List.append_assoc, eapi_Input, eapi_Output, eapi_Spendable] at ehy4
  refine ee_seq_reg rfl (by simp [-chunk, -Cell.isSl, -callOp, callOp_eq, hT72, ehy3, hT71, ehy4]; rfl) ?_
  refine ee_ret ?_
  obtain rfl := Option.some.inj hr
  simp [FinQ, -chunk, -Cell.isSl, -callOp, callOp_eq, hT72, ehy3, hT71, ehy4]
def kp58 : Keep := fun i => ⟨[], [], []⟩
theorem w58 {T : Tab} (hT57 : T 57 = some G_Lcodec_AppendU32) (hT60 : T 60 = some G_Lcodec_AppendU64) (hT71 : T 71 = some G_Lcodec_extend) (hT73 : T 73 = some G_Lcodec_AppendU16) (a0 : (List Int)) (a1 : Int) (x : (List Int)) (hr : Lcodec_AppendSize a0 a1 = some x) : ∃ kp fl n, execFn tt T G kp fl n Try.f58 [.one (.slice .no (intsR .u8 a0)), .one (.v (.int .u64 a1))] = some (.one (.own 1 (intsR .u8 x)), []) := by
  refine fnE (kp := kp58) (w := true) body58 ?_
  unfold c58
  rw [Try.ntmps58]
  unfold Lcodec_AppendSize at hr
  refine ee_seq_reg rfl (by simp [-chunk, -Cell.isSl, -callOp, callOp_eq, ]; rfl) ?_
  refine ee_seq_block ?_
  refine ee_seq_reg rfl (by simp [-chunk, -Cell.isSl, -callOp, callOp_eq, ]; rfl) ?_
  by_cases c8 : a1 < 253
  · skip
    rw [if_pos] at hr
    rotate_left
    · simp [c8]
    refine ee_condT (by simp [bV, c8]) ?_
    obtain ⟨y9, hy9, hr⟩ := Option.bind_eq_some_iff.1 hr
    have ehy9 := G_Lcodec_extend_eq hy9
    try simp only [intsR_nil, intsR_cons, intsR_app, intsR_tk, intsR_dr, intsR_st, intsR_rep, List.map_nil, List.map_cons, List.map_append, List.map_take, List.map_drop, List.map_set, List.map_replicate, List.nil_append, List.cons_append, List.append_assoc, eapi_Input, eapi_Output, eapi_Spendable] at ehy9
    refine ee_seq_reg rfl (by simp [-chunk, -Cell.isSl, -callOp, callOp_eq, hT71, ehy9, c8]; rfl) ?_
    refine ee_ret ?_
    obtain rfl := Option.some.inj hr
    simp [FinQ, -chunk, -Cell.isSl, -callOp, callOp_eq, hT71, ehy9, c8]
  · skip
    rw [if_neg] at hr
    rotate_left
    · simp [c8]
    refine ee_condF (by simp [bV, c8]) ?_
    refine ee_seq_reg rfl (by simp [-chunk, -Cell.isSl, -callOp, callOp_eq, c8]; rfl) ?_
    by_cases c10 : a1 < 65536
    · skip
      rw [if_pos] at hr
      rotate_left
      · simp [c8, c10]
      refine ee_condT (by simp [bV, c8, c10]) ?_
      obtain ⟨y11, hy11, hr⟩ := Option.bind_eq_some_iff.1 hr
      have ehy11 := G_Lcodec_extend_eq hy11
      try simp only [intsR_nil, intsR_cons, intsR_app, intsR_tk, intsR_dr, intsR_st, intsR_rep, List.map_nil, List.map_cons, List.map_append, List.map_take, List.map_drop, List.map_set, List.map_replicate, List.nil_append, List.cons_append, List.append_assoc, eapi_Input, eapi_Output, eapi_Spendable] at ehy11
      obtain ⟨y12, hy12, hr⟩ := Option.bind_eq_some_iff.1 hr
      have ehy12 := G_Lcodec_AppendU16_eq hy12
      try simp only [intsR_nil, intsR_cons, intsR_app, intsR_tk, intsR_dr, intsR_st, intsR_rep, List.map_nil, List.map_cons, List.map_append, List.map_take, List.map_drop, List.map_set, List.map_replicate, List.nil_append, List.cons_append, List.append_assoc, eapi_Input, eapi_Output, eapi_Spendable] at ehy12
      refine ee_seq_reg rfl (by simp [-chunk, -Cell.isSl, -callOp, callOp_eq, hT71, ehy11, hT73, ehy12, c8, c10]; rfl) ?_
      refine ee_ret ?_
      obtain rfl := Option.some.inj hr
      simp [FinQ, -chunk, -Cell.isSl, -callOp, callOp_eq, hT71, ehy11, hT73, ehy12, c8, c10]
    · skip
      rw [if_neg] at hr
      rotate_left
      · simp [c8, c10]
      refine ee_condF (by simp [bV, c8, c10]) ?_
      refine ee_seq_reg rfl (by simp [-chunk, -Cell.isSl, -callOp, callOp_eq, c8, c10]; rfl) ?_
      by_cases c13 : a1 < 4294967296
      · skip
        rw [if_pos] at hr
        rotate_left
        · simp [c8, c10, c13]
        refine ee_condT (by simp [bV, c8, c10, c13]) ?_
        obtain ⟨y14, hy14, hr⟩ := Option.bind_eq_some_iff.1 hr
        have ehy14 := G_Lcodec_extend_eq hy14
        try simp only [intsR_nil, intsR_cons, intsR_app, intsR_tk, intsR_dr, intsR_st, intsR_rep, List.map_nil, List.map_cons, List.map_append, List.map_take, List.map_drop, List.map_set, List.map_replicate, List.nil_append, List.cons_append, List.append_assoc, eapi_Input, eapi_Output, eapi_Spendable] at ehy14
        obtain ⟨y15, hy15, hr⟩ := Option.bind_eq_some_iff.1 hr
        have ehy15 := G_Lcodec_AppendU32_eq hy15
        try simp only [intsR_nil, intsR_cons, intsR_app, intsR_tk, intsR_dr, intsR_st, intsR_rep, List.map_nil, List.map_cons, List.map_append, List.map_take, List.map_drop, List.map_set, List.map_replicate, List.nil_append, List.cons_append, List.append_assoc, eapi_Input, eapi_Output, eapi_Spendable] at ehy15
        refine ee_seq_reg rfl (by simp [-chunk, -Cell.isSl, -callOp, callOp_eq, hT71, ehy14, hT57, ehy15, c8, c10, c13]; rfl) ?_
        refine ee_ret ?_
        obtain rfl := Option.some.inj hr
        simp [FinQ, -chunk, -Cell.isSl, -callOp, callOp_eq, hT71, ehy14, hT57, ehy15, c8, c10, c13]
      · skip
        rw [if_neg] at hr
        rotate_left
        · simp [c8, c10, c13]
        refine ee_condF (by simp [bV, c8, c10, c13]) ?_
        refine ee_skip ?_
        simp only [outOf, thenQ, QL, if_true, ite_true, reduceCtorEq, if_false]
        obtain ⟨y16, hy16, hr⟩ := Option.bind_eq_some_iff.1 hr
        have ehy16 := G_Lcodec_extend_eq hy16
        try simp only [intsR_nil, intsR_cons, intsR_app, intsR_tk, intsR_dr, intsR_st, intsR_rep, List.map_nil, List.map_cons, List.map_append, List.map_take, List.map_drop, List.map_set, List.map_replicate, List.nil_append, List.cons_append, List.append_assoc, eapi_Input, eapi_Output, eapi_Spendable] at ehy16
        obtain ⟨y17, hy17, hr⟩ := Option.bind_eq_some_iff.1 hr
        have ehy17 := G_Lcodec_AppendU64_eq hy17
        try simp only [intsR_nil, intsR_cons, intsR_app, intsR_tk, intsR_dr, intsR_st, intsR_rep, List.map_nil, List.map_cons, List.map_append, List.map_take, List.map_drop, List.map_set, List.map_replicate, List.nil_append, List.cons_append, List.append_assoc, eapi_Input, eapi_Output, eapi_Spendable] at ehy17
        refine ee_seq_reg rfl (by simp [-chunk, -Cell.isSl, -callOp, callOp_eq, hT71, ehy16, hT60, ehy17, c8, c10, c13]; rfl) ?_
        refine ee_ret ?_
        obtain rfl := Option.some.inj hr
        simp [FinQ, -chunk, -Cell.isSl, -callOp, callOp_eq, hT71, ehy16, hT60, ehy17, c8, c10, c13]
def kp74 : Keep := fun i => ⟨[], [], []⟩
theorem w74 {T : Tab} (hT71 : T 71 = some G_Lcodec_extend) (a0 : (List Int)) (a1 : (Arr 32)) (x : (List Int)) (hr : Lcodec_AppendHash a0 a1 = some x) : ∃ kp fl n, execFn tt T G kp fl n Try.f74 [.one (.slice .no (intsR .u8 a0)), .agg (arC .u8 a1)] = some (.one (.own 1 (intsR .u8 x)), []) := by
  refine fnE (kp := kp74) (w := true) body74 ?_
  unfold c74
  rw [Try.ntmps74]
  unfold Lcodec_AppendHash at hr
  refine ee_seq_reg rfl (by simp [-chunk, -Cell.isSl, -callOp, callOp_eq, ]; rfl) ?_
  obtain ⟨y2, hy2, hr⟩ := Option.bind_eq_some_iff.1 hr
  have ehy2 := G_Lcodec_extend_eq hy2
  try simp only [intsR_nil, intsR_cons, intsR_app, intsR_tk, intsR_dr, intsR_st, intsR_rep, List.map_nil, List.map_cons, List.map_append, List.map_take, List.map_drop, List.map_set, List.map_replicate, List.nil_append, List.cons_append, List.append_assoc, eapi_Input, eapi_Output, eapi_Spendable] at ehy2
  refine ee_seq_reg rfl (by simp [-chunk, -Cell.isSl, -callOp, callOp_eq, hT71, ehy2]; rfl) ?_
  refine ee_ret ?_
  obtain rfl := Option.some.inj hr
  simp [FinQ, -chunk, -Cell.isSl, -callOp, callOp_eq, hT71, ehy2]
def kp59 : Keep := fun i => ⟨[], [], []⟩
theorem w59 {T : Tab} (hT57 : T 57 = some G_Lcodec_AppendU32) (hT74 : T 74 = some G_Lcodec_AppendHash) (a0 : Tapi_OutPoint) (x : (List Int)) (hr : Ltx_Point a0 = some x) : ∃ kp fl n, execFn tt T G kp fl n Try.f59 [.agg ((arC .u8 a0.1) ++ ((.v (.int .u32 a0.2)) :: []))] = some (.one (.own 1 (intsR .u8 x)), []) := by
  refine fnE (kp := kp59) (w := true) body59 ?_
  unfold c59
  rw [Try.ntmps59]
  unfold Ltx_Point at hr
  refine ee_seq_reg rfl (by simp [-chunk, -Cell.isSl, -callOp, callOp_eq, ]; rfl) ?_
  obtain ⟨y3, hy3, hr⟩ := Option.bind_eq_some_iff.1 hr
  have ehy3 := G_Lcodec_AppendHash_eq hy3
  try simp only [intsR_nil, intsR_cons, intsR_app, intsR_tk, intsR_dr, intsR_st, intsR_rep, List.map_nil, List.map_cons, List.map_append, List.map_take, List.map_drop, List.map_set, List.map_replicate, List.nil_append, List.cons_append, List.append_assoc, eapi_Input, eapi_Output, eapi_Spendable] at ehy3
  obtain ⟨y4, hy4, hr⟩ := Option.bind_eq_some_iff.1 hr
  have ehy4 := G_Lcodec_AppendU32_eq hy4
  try simp only [intsR_nil, intsR_cons, intsR_app, intsR_tk, intsR_dr, intsR_st, intsR_rep, List.map_nil, List.map_cons, List.map_append, List.map_take, List.map_drop, List.map_set, List.map_replicate, List.nil_append, List.cons_append, List.append_assoc, eapi_Input, eapi_Output, eapi_Spendable] at ehy4
  refine ee_seq_draw rfl (by simp [-chunk, -Cell.isSl, -callOp, callOp_eq, hT74, ehy3, hT57, ehy4]; first | exact ⟨rfl, rfl⟩ | rfl) (by kernel_rfl) ?_
  refine ee_ret ?_
  obtain rfl := Option.some.inj hr
  simp [FinQ, -chunk, -Cell.isSl, -callOp, callOp_eq, hT74, ehy3, hT57, ehy4]
def kp61 : Keep := fun i => ⟨[], [], []⟩
theorem w61 {T : Tab} (hT58 : T 58 = some G_Lcodec_AppendSize) (hT71 : T 71 = some G_Lcodec_extend) (a0 : (List Int)) (a1 : (List Int)) (x : (List Int)) (hr : Lcodec_AppendBytes a0 a1 = some x) : ∃ kp fl n, execFn tt T G kp fl n Try.f61 [.one (.slice .no (intsR .u8 a0)), .one (.slice .no (intsR .u8 a1))] = some (.one (.own 1 (intsR .u8 x)), []) := by
  refine fnE (kp := kp61) (w := true) body61 ?_
  unfold c61
  rw [Try.ntmps61]
  unfold Lcodec_AppendBytes at hr
  refine ee_seq_reg rfl (by simp [-chunk, -Cell.isSl, -callOp, callOp_eq, ]; rfl) ?_
  obtain ⟨y3, hy3, hr⟩ := Option.bind_eq_some_iff.1 hr
  have ehy3 := G_Lcodec_AppendSize_eq hy3
  try simp only [intsR_nil, intsR_cons, intsR_app, intsR_tk, intsR_dr, intsR_st, intsR_rep, List.map_nil, List.map_cons, List.map_append, List.map_take, List.map_drop, List.map_set, List.map_replicate, List.nil_append, List.cons_append, List.append_assoc, eapi_Input, eapi_Output, eapi_Spendable] at ehy3
  obtain ⟨y4, hy4, hr⟩ := Option.bind_eq_some_iff.1 hr
  have ehy4 := G_Lcodec_extend_eq hy4
  try simp only [intsR_nil, intsR_cons, intsR_app, intsR_tk, intsR_dr, intsR_st, intsR_rep, List.map_nil, List.map_cons, List.map_append, List.map_take, List.map_drop, List.map_set, List.map_replicate, List.nil_append, List.cons_append, List.append_assoc, eapi_Input, eapi_Output, eapi_Spendable] at ehy4
  refine ee_seq_reg rfl (by simp [-chunk, -Cell.isSl, -callOp, callOp_eq, hT58, ehy3, hT71, ehy4]; rfl) ?_
  refine ee_ret ?_
  obtain rfl := Option.some.inj hr
  simp [FinQ, -chunk, -Cell.isSl, -callOp, callOp_eq, hT58, ehy3, hT71, ehy4]
end Go.Proofs.Ytanhccemhpmnhaa
