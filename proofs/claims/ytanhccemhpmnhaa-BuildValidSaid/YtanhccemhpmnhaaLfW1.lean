import Derived.Test.YtanhccemhpmnhaaLfK
import Derived.Test.YtanhccemhpmnhaaCode
namespace Go.Proofs.Ytanhccemhpmnhaa
open Go.RowKit
open Go.Av
open Go.Lc
set_option maxRecDepth 100000
set_option linter.unusedSimpArgs false
set_option linter.unusedVariables false
variable {G : Glob}
def kp11 : Keep := fun i => ⟨[], [], []⟩
theorem w11 {T : Tab} (a0 : Int) (a1 : Int) (x : Int) (hr : Lbuild_Fee a0 a1 = some x) : ∃ kp fl n, execFn tt T G kp fl n Try.f11 [.one (.v (.int .i64 a0)), .one (.v (.int .i64 a1))] = some (.one (.v (.int .i64 x)), []) := by
  refine fnE (kp := kp11) (w := false) body11 ?_
  unfold c11
  rw [Try.ntmps11]
  unfold Lbuild_Fee at hr
  refine ee_seq_reg rfl (by simp [-chunk, -Cell.isSl, -callOp, callOp_eq, ]; rfl) ?_
  refine ee_assoc ?_
  by_cases c1 : a0 < 0
  · skip
    refine ee_seq_reg rfl (by simp [-chunk, -Cell.isSl, -callOp, callOp_eq, c1]; rfl) ?_
    rw [if_pos] at hr
    rotate_left
    · simp [c1]
    refine ee_seq_condT (by simp [bV, c1]) ?_
    refine ee_assoc ?_
    refine ee_seq_reg rfl (by simp [-chunk, -Cell.isSl, -callOp, callOp_eq, c1]; rfl) ?_
    refine ee_seq_ret ?_
    obtain rfl := Option.some.inj hr
    simp [FinQ, -chunk, -Cell.isSl, -callOp, callOp_eq, c1]
  · skip
    by_cases c2 : 80000 < a0
    · skip
      refine ee_seq_reg rfl (by simp [-chunk, -Cell.isSl, -callOp, callOp_eq, c1, c2]; rfl) ?_
      rw [if_pos] at hr
      rotate_left
      · simp [c1, c2]
      refine ee_seq_condT (by simp [bV, c1, c2]) ?_
      refine ee_assoc ?_
      refine ee_seq_reg rfl (by simp [-chunk, -Cell.isSl, -callOp, callOp_eq, c1, c2]; rfl) ?_
      refine ee_seq_ret ?_
      obtain rfl := Option.some.inj hr
      simp [FinQ, -chunk, -Cell.isSl, -callOp, callOp_eq, c1, c2]
    · skip
      by_cases c3 : a1 < 0
      · skip
        refine ee_seq_reg rfl (by simp [-chunk, -Cell.isSl, -callOp, callOp_eq, c1, c2, c3]; rfl) ?_
        rw [if_pos] at hr
        rotate_left
        · simp [c1, c2, c3]
        refine ee_seq_condT (by simp [bV, c1, c2, c3]) ?_
        refine ee_assoc ?_
        refine ee_seq_reg rfl (by simp [-chunk, -Cell.isSl, -callOp, callOp_eq, c1, c2, c3]; rfl) ?_
        refine ee_seq_ret ?_
        obtain rfl := Option.some.inj hr
        simp [FinQ, -chunk, -Cell.isSl, -callOp, callOp_eq, c1, c2, c3]
      · skip
        refine ee_seq_reg rfl (by simp [-chunk, -Cell.isSl, -callOp, callOp_eq, c1, c2, c3]; rfl) ?_
        by_cases c4 : 1048576 < a1
        · skip
          rw [if_pos] at hr
          rotate_left
          · simp [c1, c2, c3, c4]
          refine ee_seq_condT (by simp [bV, c1, c2, c3, c4]) ?_
          refine ee_assoc ?_
          refine ee_seq_reg rfl (by simp [-chunk, -Cell.isSl, -callOp, callOp_eq, c1, c2, c3, c4]; rfl) ?_
          refine ee_seq_ret ?_
          obtain rfl := Option.some.inj hr
          simp [FinQ, -chunk, -Cell.isSl, -callOp, callOp_eq, c1, c2, c3, c4]
        · skip
          rw [if_neg] at hr
          rotate_left
          · simp [c1, c2, c3, c4]
          refine ee_seq_condF (by simp [bV, c1, c2, c3, c4]) ?_
          refine ee_seq_skip ?_
          refine ee_seq_reg rfl (by simp [-chunk, -Cell.isSl, -callOp, callOp_eq, c1, c2, c3, c4]; rfl) ?_
          refine ee_ret ?_
          obtain rfl := Option.some.inj hr
          simp [FinQ, -chunk, -Cell.isSl, -callOp, callOp_eq, c1, c2, c3, c4]
def kp13 : Keep := fun i => ⟨[], [], []⟩
theorem w13 {T : Tab} (a0 : Tapi_Spendable) (x : Int) (hr : Lbuild_InputWeight a0 = some x) : ∃ kp fl n, execFn tt T G kp fl n Try.f13 [.agg ((arC .u8 a0.1.1.1) ++ ((.v (.int .u32 a0.1.1.2)) :: ((.v (.int .i64 a0.1.2.1.1)) :: ((.slice .no (intsR .u8 a0.1.2.1.2)) :: ((.v (.int .i64 a0.1.2.2.1)) :: ((.v (.bool a0.1.2.2.2)) :: ((.v (.int .i64 a0.2)) :: [])))))))] = some (.one (.v (.int .i64 x)), []) := by
  refine fnE (kp := kp13) (w := false) body13 ?_
  unfold c13
  rw [Try.ntmps13]
  unfold Lbuild_InputWeight at hr
  refine ee_seq_reg rfl (by simp [-chunk, -Cell.isSl, -callOp, callOp_eq, ]; rfl) ?_
  refine ee_seq_reg rfl (by simp [-chunk, -Cell.isSl, -callOp, callOp_eq, ]; rfl) ?_
  refine ee_ret ?_
  obtain rfl := Option.some.inj hr
  simp [FinQ, -chunk, -Cell.isSl, -callOp, callOp_eq, ]
def kp6 : Keep := fun i => ⟨[], [], []⟩
theorem w6 {T : Tab} (hT11 : T 11 = some G_Lbuild_Fee) (hT13 : T 13 = some G_Lbuild_InputWeight) (x : Bool) (hr : Llaw34_sane  = some x) : ∃ kp fl n, execFn tt T G kp fl n Try.f6 [] = some (.one (.v (.bool x)), []) := by
  refine fnE (kp := kp6) (w := false) body6 ?_
  unfold c6
  rw [Try.ntmps6]
  unfold Llaw34_sane at hr
  refine ee_seq_reg rfl (by simp [-chunk, -Cell.isSl, -callOp, callOp_eq, ]; rfl) ?_
  obtain ⟨y6, hy6, hr⟩ := Option.bind_eq_some_iff.1 hr
  have ehy6 := G_Lbuild_Fee_eq hy6
  try simp only [intsR_nil, intsR_cons, intsR_app, intsR_tk, intsR_dr, intsR_st, intsR_rep, List.map_nil, List.map_cons, List.map_append, List.map_take, List.map_drop, List.map_set, List.map_replicate, List.nil_append, List.cons_append, List.append_assoc, eapi_Input] at ehy6
  by_cases c7 : y6 = 1001
  · skip
    rw [if_pos] at hr
    rotate_left
    · simp [eq_true c7]
    obtain ⟨z8, hz8, hr⟩ := Option.bind_eq_some_iff.1 hr
    obtain ⟨y9, hy9, hz8⟩ := Option.bind_eq_some_iff.1 hz8
    have ehy9 := G_Lbuild_Fee_eq hy9
    try simp only [intsR_nil, intsR_cons, intsR_app, intsR_tk, intsR_dr, intsR_st, intsR_rep, List.map_nil, List.map_cons, List.map_append, List.map_take, List.map_drop, List.map_set, List.map_replicate, List.nil_append, List.cons_append, List.append_assoc, eapi_Input] at ehy9
    obtain rfl := Option.some.inj hz8
    by_cases c10 : y9 = 1
    · skip
      rw [if_pos] at hr
      rotate_left
      · simp [eq_true c7, eq_true c10]
      obtain ⟨z11, hz11, hr⟩ := Option.bind_eq_some_iff.1 hr
      obtain ⟨y12, hy12, hz11⟩ := Option.bind_eq_some_iff.1 hz11
      have ehy12 := G_Lbuild_InputWeight_eq hy12
      try simp only [intsR_nil, intsR_cons, intsR_app, intsR_tk, intsR_dr, intsR_st, intsR_rep, List.map_nil, List.map_cons, List.map_append, List.map_take, List.map_drop, List.map_set, List.map_replicate, List.nil_append, List.cons_append, List.append_assoc, eapi_Input] at ehy12
      obtain rfl := Option.some.inj hz11
      refine ee_seq_reg rfl (by simp [-chunk, -Cell.isSl, -callOp, callOp_eq, hT11, ehy6, ehy9, hT13, ehy12, eq_true c7, eq_true c10]; rfl) ?_
      refine ee_ret ?_
      obtain rfl := Option.some.inj hr
      simp [FinQ, -chunk, -Cell.isSl, -callOp, callOp_eq, hT11, ehy6, ehy9, hT13, ehy12, eq_true c7, eq_true c10]
    · skip
      rw [if_neg] at hr
      rotate_left
      · simp [eq_true c7, c10]
      obtain ⟨z13, hz13, hr⟩ := Option.bind_eq_some_iff.1 hr
      obtain rfl := Option.some.inj hz13
      refine ee_seq_reg rfl (by simp [-chunk, -Cell.isSl, -callOp, callOp_eq, hT11, ehy6, ehy9, eq_true c7, c10]; rfl) ?_
      refine ee_ret ?_
      obtain rfl := Option.some.inj hr
      simp [FinQ, -chunk, -Cell.isSl, -callOp, callOp_eq, hT11, ehy6, ehy9, eq_true c7, c10]
  · skip
    rw [if_neg] at hr
    rotate_left
    · simp [c7]
    obtain ⟨z14, hz14, hr⟩ := Option.bind_eq_some_iff.1 hr
    obtain rfl := Option.some.inj hz14
    rw [if_neg] at hr
    rotate_left
    · simp [c7]
    obtain ⟨z15, hz15, hr⟩ := Option.bind_eq_some_iff.1 hr
    obtain rfl := Option.some.inj hz15
    refine ee_seq_reg rfl (by simp [-chunk, -Cell.isSl, -callOp, callOp_eq, hT11, ehy6, c7]; rfl) ?_
    refine ee_ret ?_
    obtain rfl := Option.some.inj hr
    simp [FinQ, -chunk, -Cell.isSl, -callOp, callOp_eq, hT11, ehy6, c7]
def kp7 : Keep := fun i => ⟨[], [], []⟩
theorem w7 {T : Tab} (a0 : (List Int)) (x : Tlightclientmill_Deck) (hr : Lmill_New a0 = some x) : ∃ kp fl n, execFn tt T G kp fl n Try.f7 [.one (.slice .no (intsR .i64 a0))] = some (.io ([.slice .no (intsR .i64 x.1), .v (.int .i64 x.2)]), []) := by
  refine fnE (kp := kp7) (w := true) body7 ?_
  unfold c7
  rw [Try.ntmps7]
  unfold Lmill_New at hr
  refine ee_seq_reg rfl (by simp [-chunk, -Cell.isSl, -callOp, callOp_eq, ]; rfl) ?_
  refine ee_seq_reg rfl (by simp [-chunk, -Cell.isSl, -callOp, callOp_eq, ]; rfl) ?_
  refine ee_ret ?_
  obtain rfl := Option.some.inj hr
  simp [FinQ, -chunk, -Cell.isSl, -callOp, callOp_eq, ]
def kp18 : Keep := fun i => ⟨[], [], []⟩
theorem w18 {T : Tab} (a0 : Int) (x : (List Int)) (hr : Lmade_Script a0 = some x) : ∃ kp fl n, execFn tt T G kp fl n Try.f18 [.one (.v (.int .u8 a0))] = some (.one (.own 1 (intsR .u8 x)), []) := by
  refine fnE (kp := kp18) (w := true) body18 ?_
  unfold c18
  rw [Try.ntmps18]
  unfold Lmade_Script at hr
  refine ee_seq_reg rfl (by simp [-chunk, -Cell.isSl, -callOp, callOp_eq, ]; rfl) ?_
  refine ee_seq_reg rfl (by simp [-chunk, -Cell.isSl, -callOp, callOp_eq, List.range, List.range.loop]; rfl) ?_
  refine ee_ret ?_
  obtain rfl := Option.some.inj hr
  simp [FinQ, -chunk, -Cell.isSl, -callOp, callOp_eq, List.range, List.range.loop]
def kp10 : Keep := fun i => ⟨[], [], []⟩
theorem w10 {T : Tab} (a0 : Int) (a1 : Int) (x : Int) (hr : Lmill_Mod a0 a1 = some x) : ∃ kp fl n, execFn tt T G kp fl n Try.f10 [.one (.v (.int .i64 a0)), .one (.v (.int .i64 a1))] = some (.one (.v (.int .i64 x)), []) := by
  refine fnE (kp := kp10) (w := false) body10 ?_
  unfold c10
  rw [Try.ntmps10]
  unfold Lmill_Mod at hr
  refine ee_seq_reg rfl (by simp [-chunk, -Cell.isSl, -callOp, callOp_eq, ]; rfl) ?_
  obtain ⟨_, u3, hr⟩ := Option.bind_eq_some_iff.1 hr
  have u3_0 := chk_some u3
  refine ee_seq_reg rfl (by simp [-chunk, -Cell.isSl, -callOp, callOp_eq, u3_0]; rfl) ?_
  refine ee_assoc ?_
  refine ee_seq_reg rfl (by simp [-chunk, -Cell.isSl, -callOp, callOp_eq, ]; rfl) ?_
  by_cases c4 : (a0).tmod a1 < 0
  · skip
    rw [if_pos] at hr
    rotate_left
    · simp [c4]
    refine ee_seq_condT (by simp [bV, c4]) ?_
    refine ee_seq_reg rfl (by simp [-chunk, -Cell.isSl, -callOp, callOp_eq, c4]; rfl) ?_
    unfold Lmill_Mod_k1 at hr
    refine ee_seq_reg rfl (by simp [-chunk, -Cell.isSl, -callOp, callOp_eq, c4]; rfl) ?_
    refine ee_ret ?_
    obtain rfl := Option.some.inj hr
    simp [FinQ, -chunk, -Cell.isSl, -callOp, callOp_eq, c4]
  · skip
    rw [if_neg] at hr
    rotate_left
    · simp [c4]
    refine ee_seq_condF (by simp [bV, c4]) ?_
    refine ee_seq_skip ?_
    unfold Lmill_Mod_k1 at hr
    refine ee_seq_reg rfl (by simp [-chunk, -Cell.isSl, -callOp, callOp_eq, c4]; rfl) ?_
    refine ee_ret ?_
    obtain rfl := Option.some.inj hr
    simp [FinQ, -chunk, -Cell.isSl, -callOp, callOp_eq, c4]
def kp45 : Keep := fun i => ⟨[], [], []⟩
theorem w45 {T : Tab} (a0 : Tlightclientmill_Deck) (x : Bool × Tlightclientmill_Deck) (hr : Lmill_Deck_Left a0 = some x) : ∃ kp fl n, execFn tt T G kp fl n Try.f45 [.io ([.slice .no (intsR .i64 a0.1), .v (.int .i64 a0.2)])] = some (.one (.v (.bool x.1)), [[.slice .no (intsR .i64 x.2.1), .v (.int .i64 x.2.2)]]) := by
  refine fnE (kp := kp45) (w := false) body45 ?_
  unfold c45
  rw [Try.ntmps45]
  unfold Lmill_Deck_Left at hr
  refine ee_seq_reg rfl (by simp [-chunk, -Cell.isSl, -callOp, callOp_eq, ]; rfl) ?_
  refine ee_seq_draw rfl (by simp [-chunk, -Cell.isSl, -callOp, callOp_eq, ]; first | exact ⟨rfl, rfl⟩ | rfl) (by kernel_rfl) ?_
  refine ee_ret ?_
  obtain rfl := Option.some.inj hr
  simp [FinQ, -chunk, -Cell.isSl, -callOp, callOp_eq, ]
def kp27 : Keep := fun i => ⟨[], [], []⟩
theorem w27 {T : Tab} (hT10 : T 10 = some G_Lmill_Mod) (hT45 : T 45 = some G_Lmill_Deck_Left) (a0 : Tlightclientmill_Deck) (a1 : Int) (x : Int × Tlightclientmill_Deck) (hr : Lmill_Deck_Next a0 a1 = some x) : ∃ kp fl n, execFn tt T G kp fl n Try.f27 [.io ([.slice .no (intsR .i64 a0.1), .v (.int .i64 a0.2)]), .one (.v (.int .i64 a1))] = some (.one (.v (.int .i64 x.1)), [[.slice .no (intsR .i64 x.2.1), .v (.int .i64 x.2.2)]]) := by
  refine fnE (kp := kp27) (w := false) body27 ?_
  unfold c27
  rw [Try.ntmps27]
  unfold Lmill_Deck_Next at hr
  refine ee_seq_reg rfl (by simp [-chunk, -Cell.isSl, -callOp, callOp_eq, ]; rfl) ?_
  refine ee_assoc ?_
  obtain ⟨y4, hy4, hr⟩ := Option.bind_eq_some_iff.1 hr
  have ehy4 := G_Lmill_Deck_Left_eq hy4
  try simp only [intsR_nil, intsR_cons, intsR_app, intsR_tk, intsR_dr, intsR_st, intsR_rep, List.map_nil, List.map_cons, List.map_append, List.map_take, List.map_drop, List.map_set, List.map_replicate, List.nil_append, List.cons_append, List.append_assoc, eapi_Input] at ehy4
  refine ee_seq_reg rfl (by simp [-chunk, -Cell.isSl, -callOp, callOp_eq, hT45, ehy4]; rfl) ?_
  by_cases c5 : y4.1 = true
  · skip
    rw [if_neg] at hr
    rotate_left
    · simp [c5]
    refine ee_seq_condF (by simp [bV, c5]) ?_
    refine ee_seq_skip ?_
    refine ee_seq_reg rfl (by simp [-chunk, -Cell.isSl, -callOp, callOp_eq, c5]; rfl) ?_
    obtain ⟨x6, hx6, hr⟩ := Option.bind_eq_some_iff.1 hr
    obtain ⟨hx6a, hx6b⟩ := idx_some hx6
    have hx6c := getE_of hx6b
    obtain ⟨y7, hy7, hr⟩ := Option.bind_eq_some_iff.1 hr
    have ehy7 := G_Lmill_Mod_eq hy7
    try simp only [intsR_nil, intsR_cons, intsR_app, intsR_tk, intsR_dr, intsR_st, intsR_rep, List.map_nil, List.map_cons, List.map_append, List.map_take, List.map_drop, List.map_set, List.map_replicate, List.nil_append, List.cons_append, List.append_assoc, eapi_Input] at ehy7
    refine ee_seq_draw rfl (by simp [-chunk, -Cell.isSl, -callOp, callOp_eq, hx6a, hx6b, hx6c, hT10, ehy7, c5]; first | exact ⟨rfl, rfl⟩ | rfl) (by kernel_rfl) ?_
    refine ee_ret ?_
    obtain rfl := Option.some.inj hr
    simp [FinQ, -chunk, -Cell.isSl, -callOp, callOp_eq, hx6a, hx6b, hx6c, hT10, ehy7, c5]
  · skip
    rw [if_pos] at hr
    rotate_left
    · simp [c5]
    refine ee_seq_condT (by simp [bV, c5]) ?_
    refine ee_assoc ?_
    refine ee_seq_reg rfl (by simp [-chunk, -Cell.isSl, -callOp, callOp_eq, c5]; rfl) ?_
    refine ee_seq_ret ?_
    obtain rfl := Option.some.inj hr
    simp [FinQ, -chunk, -Cell.isSl, -callOp, callOp_eq, c5]
def kp28 : Keep := fun i => ⟨[], [], []⟩
theorem w28 {T : Tab} (hT27 : T 27 = some G_Lmill_Deck_Next) (a0 : Tlightclientmill_Deck) (a1 : Int) (a2 : Int) (x : Int × Tlightclientmill_Deck) (hr : Lmill_Deck_Range a0 a1 a2 = some x) : ∃ kp fl n, execFn tt T G kp fl n Try.f28 [.io ([.slice .no (intsR .i64 a0.1), .v (.int .i64 a0.2)]), .one (.v (.int .i64 a1)), .one (.v (.int .i64 a2))] = some (.one (.v (.int .i64 x.1)), [[.slice .no (intsR .i64 x.2.1), .v (.int .i64 x.2.2)]]) := by
  refine fnE (kp := kp28) (w := false) body28 ?_
  unfold c28
  rw [Try.ntmps28]
  unfold Lmill_Deck_Range at hr
  refine ee_seq_reg rfl (by simp [-chunk, -Cell.isSl, -callOp, callOp_eq, ]; rfl) ?_
  obtain ⟨y2, hy2, hr⟩ := Option.bind_eq_some_iff.1 hr
  have ehy2 := G_Lmill_Deck_Next_eq hy2
  try simp only [intsR_nil, intsR_cons, intsR_app, intsR_tk, intsR_dr, intsR_st, intsR_rep, List.map_nil, List.map_cons, List.map_append, List.map_take, List.map_drop, List.map_set, List.map_replicate, List.nil_append, List.cons_append, List.append_assoc, eapi_Input] at ehy2
  refine ee_seq_reg rfl (by simp [-chunk, -Cell.isSl, -callOp, callOp_eq, hT27, ehy2]; rfl) ?_
  refine ee_ret ?_
  obtain rfl := Option.some.inj hr
  simp [FinQ, -chunk, -Cell.isSl, -callOp, callOp_eq, hT27, ehy2]
def kp29 : Keep := fun i => ⟨[], [], []⟩
theorem w29 {T : Tab} (hT27 : T 27 = some G_Lmill_Deck_Next) (a0 : Tlightclientmill_Deck) (x : (Arr 32) × Tlightclientmill_Deck) (hr : Lmill_Hash a0 = some x) : ∃ kp fl n, execFn tt T G kp fl n Try.f29 [.io ([.slice .no (intsR .i64 a0.1), .v (.int .i64 a0.2)])] = some (.agg (arC .u8 x.1), [[.slice .no (intsR .i64 x.2.1), .v (.int .i64 x.2.2)]]) := by
  refine fnE (kp := kp29) (w := false) body29 ?_
  unfold c29
  rw [Try.ntmps29]
  unfold Lmill_Hash at hr
  refine ee_seq_reg rfl (by simp [-chunk, -Cell.isSl, -callOp, callOp_eq, ]; rfl) ?_
  obtain ⟨y3, hy3, hr⟩ := Option.bind_eq_some_iff.1 hr
  have ehy3 := G_Lmill_Deck_Next_eq hy3
  try simp only [intsR_nil, intsR_cons, intsR_app, intsR_tk, intsR_dr, intsR_st, intsR_rep, List.map_nil, List.map_cons, List.map_append, List.map_take, List.map_drop, List.map_set, List.map_replicate, List.nil_append, List.cons_append, List.append_assoc, eapi_Input] at ehy3
  obtain ⟨y4, hy4, hr⟩ := Option.bind_eq_some_iff.1 hr
  have ehy4 := G_Lmill_Deck_Next_eq hy4
  try simp only [intsR_nil, intsR_cons, intsR_app, intsR_tk, intsR_dr, intsR_st, intsR_rep, List.map_nil, List.map_cons, List.map_append, List.map_take, List.map_drop, List.map_set, List.map_replicate, List.nil_append, List.cons_append, List.append_assoc, eapi_Input] at ehy4
  have ap5 := arC_put (k := .u8) (zA 32) (i := 0) (by decide) (IntKind.u8.wrap (y3.1))
  have ap6 := arC_put (k := .u8) ((zA 32).put 0 (IntKind.u8.wrap (y3.1))) (i := 31) (by decide) (IntKind.u8.wrap (y4.1))
  refine ee_seq_reg rfl (by simp [-chunk, -Cell.isSl, -callOp, callOp_eq, hT27, ehy3, ehy4, ap5, ap6]; rfl) ?_
  refine ee_ret ?_
  obtain rfl := Option.some.inj hr
  simp [FinQ, -chunk, -Cell.isSl, -callOp, callOp_eq, hT27, ehy3, ehy4, ap5, ap6]
def kp8 : Keep := fun i => if i = 3 then ⟨[0, 2, 3, 4], [2, 3, 45, 1000000], [(3, some 1, 45, 35)]⟩ else if i = 10 then ⟨[0, 2, 3, 6], [2, 3, 45, 63, 1000000], [(3, some 2, 63, 2)]⟩ else ⟨[], [], []⟩
theorem w8 {T : Tab} (hT18 : T 18 = some G_Lmade_Script) (hT27 : T 27 = some G_Lmill_Deck_Next) (hT28 : T 28 = some G_Lmill_Deck_Range) (hT29 : T 29 = some G_Lmill_Hash) (a0 : Tlightclientmill_Deck) (x : Tapi_Tx × Tlightclientmill_Deck) (hr : Lmill_Tx a0 = some x) : ∃ kp fl n, execFn tt T G kp fl n Try.f8 [.io ([.slice .no (intsR .i64 a0.1), .v (.int .i64 a0.2)])] = some (.agg ([.v (.int .u32 x.1.1), .own 35 (List.map eapi_Input x.1.2.1), .own 2 (List.map eapi_Output x.1.2.2.1), .v (.int .u32 x.1.2.2.2)]), [[.slice .no (intsR .i64 x.2.1), .v (.int .i64 x.2.2)]]) := by
  refine fnE (kp := kp8) (w := true) body8 ?_
  unfold c8
  rw [Try.ntmps8]
  unfold Lmill_Tx at hr
  refine ee_seq_reg rfl (by simp [-chunk, -Cell.isSl, -callOp, callOp_eq, ]; rfl) ?_
  obtain ⟨y72, hy72, hr⟩ := Option.bind_eq_some_iff.1 hr
  have ehy72 := G_Lmill_Deck_Next_eq hy72
  try simp only [intsR_nil, intsR_cons, intsR_app, intsR_tk, intsR_dr, intsR_st, intsR_rep, List.map_nil, List.map_cons, List.map_append, List.map_take, List.map_drop, List.map_set, List.map_replicate, List.nil_append, List.cons_append, List.append_assoc, eapi_Input] at ehy72
  obtain ⟨y73, hy73, hr⟩ := Option.bind_eq_some_iff.1 hr
  have ehy73 := G_Lmill_Deck_Next_eq hy73
  try simp only [intsR_nil, intsR_cons, intsR_app, intsR_tk, intsR_dr, intsR_st, intsR_rep, List.map_nil, List.map_cons, List.map_append, List.map_take, List.map_drop, List.map_set, List.map_replicate, List.nil_append, List.cons_append, List.append_assoc, eapi_Input] at ehy73
  refine ee_seq_reg rfl (by simp [-chunk, -Cell.isSl, -callOp, callOp_eq, hT27, ehy72, ehy73]; rfl) ?_
  refine ee_assoc ?_
  obtain ⟨y74, hy74, hr⟩ := Option.bind_eq_some_iff.1 hr
  have ehy74 := G_Lmill_Deck_Range_eq hy74
  try simp only [intsR_nil, intsR_cons, intsR_app, intsR_tk, intsR_dr, intsR_st, intsR_rep, List.map_nil, List.map_cons, List.map_append, List.map_take, List.map_drop, List.map_set, List.map_replicate, List.nil_append, List.cons_append, List.append_assoc, eapi_Input] at ehy74
  refine ee_seq_reg rfl (by simp [-chunk, -Cell.isSl, -callOp, callOp_eq, hT28, ehy74]; rfl) ?_
  refine ee_seq_block ?_
  refine ee_loop (kq := ⟨[0, 2, 3, 4], [2, 3, 45, 1000000], [(3, some 1, 45, 35)]⟩) (H := fun (s : Int × Tlightclientmill_Deck × (List Tapi_Input)) => match s with | (p26, p27, p28) => (⟨([.ptr 1000000 0 0 0 2] ++ (und 1 ++ ([.ptr 2 0 0 0 4, .ptr 3 0 0 0 4, .one (.v (.int .i64 p26))] ++ (und 61))) : List PV), ([(2, ⟨0, 4, [[.v (.int .u32 0), .slice .nil [], .slice .nil [], .v (.int .u32 0)]], false, false⟩), (3, ⟨0, 4, [[.v (.int .u32 (IntKind.u32.wrap (y72.1))), .ms 45 0 0 (p28.length) 35, .slice .nil [], .v (.int .u32 (IntKind.u32.wrap (y73.1)))]], false, false⟩), (45, ⟨0, 35, List.map eapi_Input p28, false, true⟩), (1000000, ⟨0, 2, [[.slice .no (intsR .i64 p27.1), .v (.int .i64 p27.2)]], false, false⟩)] : Boxes)⟩ : ASt)) (by kernel_rfl) hr (by simp [und, List.replicate, ]) ?_
  rintro ⟨p26, p27, p28⟩ x75r hr75
  simp only [Lmill_Tx_s1] at hr75
  unfold b8_1
  simp only [und, List.replicate, List.cons_append, List.nil_append]
  refine ee_assoc ?_
  refine ee_seq_reg rfl (by simp [-chunk, -Cell.isSl, -callOp, callOp_eq, ]; rfl) ?_
  by_cases c76 : 0 < p26
  · skip
    rw [if_pos] at hr75
    rotate_left
    · simp [c76]
    refine ee_seq_condT (by simp [bV, c76]) ?_
    refine ee_seq_skip ?_
    refine ee_seq_block ?_
    obtain ⟨y77, hy77, hr75⟩ := Option.bind_eq_some_iff.1 hr75
    have ehy77 := G_Lmill_Hash_eq hy77
    try simp only [intsR_nil, intsR_cons, intsR_app, intsR_tk, intsR_dr, intsR_st, intsR_rep, List.map_nil, List.map_cons, List.map_append, List.map_take, List.map_drop, List.map_set, List.map_replicate, List.nil_append, List.cons_append, List.append_assoc, eapi_Input] at ehy77
    obtain ⟨y78, hy78, hr75⟩ := Option.bind_eq_some_iff.1 hr75
    have ehy78 := G_Lmill_Deck_Next_eq hy78
    try simp only [intsR_nil, intsR_cons, intsR_app, intsR_tk, intsR_dr, intsR_st, intsR_rep, List.map_nil, List.map_cons, List.map_append, List.map_take, List.map_drop, List.map_set, List.map_replicate, List.nil_append, List.cons_append, List.append_assoc, eapi_Input] at ehy78
    obtain ⟨y79, hy79, hr75⟩ := Option.bind_eq_some_iff.1 hr75
    have ehy79 := G_Lmill_Deck_Next_eq hy79
    try simp only [intsR_nil, intsR_cons, intsR_app, intsR_tk, intsR_dr, intsR_st, intsR_rep, List.map_nil, List.map_cons, List.map_append, List.map_take, List.map_drop, List.map_set, List.map_replicate, List.nil_append, List.cons_append, List.append_assoc, eapi_Input] at ehy79
    obtain ⟨j80, hj80, hr75⟩ := Option.bind_eq_some_iff.1 hr75
    obtain ⟨j80a, j80b, j80c⟩ := inA_some hj80
    obtain ⟨x81, hx81, hr75⟩ := Option.bind_eq_some_iff.1 hr75
    have ghx81 := getE_of hx81
    have mhx81 : (intsR .u32 ([4294967295, 4294967294, 4294967293, 0]))[j80]? = some [.v (.int .u32 x81)] := by rw [intsR_get, hx81]; rfl
    simp only [intsR_cons, intsR_nil] at mhx81
    have mghx81 := getE_of mhx81
    refine ee_seq_reg rfl (by simp [-chunk, -Cell.isSl, -callOp, callOp_eq, hT29, ehy77, hT27, ehy78, List.range, List.range.loop, ehy79, j80a, j80b, j80c, hx81, ghx81, mhx81, mghx81, c76]; rfl) ?_
    refine ee_assoc ?_
    obtain ⟨y82, hy82, hr75⟩ := Option.bind_eq_some_iff.1 hr75
    have ehy82 := G_Lmill_Deck_Next_eq hy82
    try simp only [intsR_nil, intsR_cons, intsR_app, intsR_tk, intsR_dr, intsR_st, intsR_rep, List.map_nil, List.map_cons, List.map_append, List.map_take, List.map_drop, List.map_set, List.map_replicate, List.nil_append, List.cons_append, List.append_assoc, eapi_Input] at ehy82
    refine ee_seq_reg rfl (by simp [-chunk, -Cell.isSl, -callOp, callOp_eq, hT27, ehy82, c76]; rfl) ?_
    by_cases c83 : y82.1 = 0
    · skip
      rw [if_pos] at hr75
      rotate_left
      · simp [c76, eq_true c83]
      refine ee_seq_condT (by simp [bV, c76, eq_true c83]) ?_
      obtain ⟨y84, hy84, hr75⟩ := Option.bind_eq_some_iff.1 hr75
      have ehy84 := G_Lmill_Deck_Next_eq hy84
      try simp only [intsR_nil, intsR_cons, intsR_app, intsR_tk, intsR_dr, intsR_st, intsR_rep, List.map_nil, List.map_cons, List.map_append, List.map_take, List.map_drop, List.map_set, List.map_replicate, List.nil_append, List.cons_append, List.append_assoc, eapi_Input] at ehy84
      refine ee_seq_reg rfl (by simp [-chunk, -Cell.isSl, -callOp, callOp_eq, hT27, ehy84, c76, eq_true c83]; rfl) ?_
      unfold Lmill_Tx_k3 at hr75
      obtain ⟨_, u85, hr75⟩ := Option.bind_eq_some_iff.1 hr75
      have u85_0 := chk_some u85
      have n1_u85_0 : (p28.length + 1) * 64 ≤ 140737488355328 := by omega
      have n2_u85_0 : p28.length + 1 ≤ 9223372036854775807 := by omega
      refine ee_reg rfl (by simp [-chunk, -Cell.isSl, -callOp, callOp_eq, n1_u85_0, n2_u85_0, c76, eq_true c83]; rfl) ?_
      simp only [outOf, thenQ, QL, if_true, ite_true, reduceCtorEq, if_false]
      refine ee_reg rfl (by simp [-chunk, -Cell.isSl, -callOp, callOp_eq, c76, eq_true c83]; rfl) ?_
      obtain rfl := Option.some.inj hr75
      simp only [outOf, thenQ, QL, if_true, ite_true, reduceCtorEq, if_false]
      simp [und, List.replicate, Nat.add_assoc, c76, eq_true c83]
    · skip
      rw [if_neg] at hr75
      rotate_left
      · simp [c76, c83]
      refine ee_seq_condF (by simp [bV, c76, c83]) ?_
      refine ee_seq_skip ?_
      unfold Lmill_Tx_k3 at hr75
      obtain ⟨_, u86, hr75⟩ := Option.bind_eq_some_iff.1 hr75
      have u86_0 := chk_some u86
      have n1_u86_0 : (p28.length + 1) * 64 ≤ 140737488355328 := by omega
      have n2_u86_0 : p28.length + 1 ≤ 9223372036854775807 := by omega
      refine ee_reg rfl (by simp [-chunk, -Cell.isSl, -callOp, callOp_eq, n1_u86_0, n2_u86_0, c76, c83]; rfl) ?_
      simp only [outOf, thenQ, QL, if_true, ite_true, reduceCtorEq, if_false]
      refine ee_reg rfl (by simp [-chunk, -Cell.isSl, -callOp, callOp_eq, c76, c83]; rfl) ?_
      obtain rfl := Option.some.inj hr75
      simp only [outOf, thenQ, QL, if_true, ite_true, reduceCtorEq, if_false]
      simp [und, List.replicate, Nat.add_assoc, c76, c83]
  · skip
    rw [if_neg] at hr75
    rotate_left
    · simp [c76]
    refine ee_seq_condF (by simp [bV, c76]) ?_
    refine ee_seq_exit ?_
    obtain ⟨r87, q87, rfl⟩ := Option.map_eq_some_iff.1 hr75
    simp only [outOf, thenQ, QL, if_true, ite_true, reduceCtorEq, if_false]
    rintro rfl
    try simp only [outOf, thenQ, QL, if_true, ite_true, reduceCtorEq, if_false]
    unfold Lmill_Tx_k1 at q87
    refine ee_assoc ?_
    obtain ⟨y88, hy88, q87⟩ := Option.bind_eq_some_iff.1 q87
    have ehy88 := G_Lmill_Deck_Range_eq hy88
    try simp only [intsR_nil, intsR_cons, intsR_app, intsR_tk, intsR_dr, intsR_st, intsR_rep, List.map_nil, List.map_cons, List.map_append, List.map_take, List.map_drop, List.map_set, List.map_replicate, List.nil_append, List.cons_append, List.append_assoc, eapi_Input] at ehy88
    refine ee_seq_reg rfl (by simp [-chunk, -Cell.isSl, -callOp, callOp_eq, hT28, ehy88, c76]; rfl) ?_
    refine ee_seq_block ?_
    refine ee_loop (kq := ⟨[0, 2, 3, 6], [2, 3, 45, 63, 1000000], [(3, some 2, 63, 2)]⟩) (H := fun (s : Int × Tlightclientmill_Deck × (List Tapi_Output)) => match s with | (p50, p51, p52) => (⟨([.ptr 1000000 0 0 0 2] ++ (und 1 ++ ([.ptr 2 0 0 0 4, .ptr 3 0 0 0 4] ++ (und 2 ++ ([.one (.v (.int .i64 p50))] ++ (und 59))))) : List PV), ([(2, ⟨0, 4, [[.v (.int .u32 0), .slice .nil [], .slice .nil [], .v (.int .u32 0)]], false, false⟩), (3, ⟨0, 4, [[.v (.int .u32 (IntKind.u32.wrap (y72.1))), .ms 45 0 0 (p28.length) 35, .ms 63 0 0 (p52.length) 2, .v (.int .u32 (IntKind.u32.wrap (y73.1)))]], false, false⟩), (45, ⟨0, 35, List.map eapi_Input p28, false, true⟩), (63, ⟨0, 2, List.map eapi_Output p52, false, true⟩), (1000000, ⟨0, 2, [[.slice .no (intsR .i64 p51.1), .v (.int .i64 p51.2)]], false, false⟩)] : Boxes)⟩ : ASt)) (by kernel_rfl) q87 (by simp [und, List.replicate, c76]) ?_
    rintro ⟨p50, p51, p52⟩ x89r hr89
    simp only [Lmill_Tx_s2] at hr89
    unfold b8_2
    simp only [und, List.replicate, List.cons_append, List.nil_append]
    refine ee_assoc ?_
    refine ee_seq_reg rfl (by simp [-chunk, -Cell.isSl, -callOp, callOp_eq, c76]; rfl) ?_
    by_cases c90 : 0 < p50
    · skip
      rw [if_pos] at hr89
      rotate_left
      · simp [c76, c90]
      refine ee_seq_condT (by simp [bV, c76, c90]) ?_
      refine ee_seq_skip ?_
      refine ee_seq_block ?_
      obtain ⟨y91, hy91, hr89⟩ := Option.bind_eq_some_iff.1 hr89
      have ehy91 := G_Lmill_Deck_Next_eq hy91
      try simp only [intsR_nil, intsR_cons, intsR_app, intsR_tk, intsR_dr, intsR_st, intsR_rep, List.map_nil, List.map_cons, List.map_append, List.map_take, List.map_drop, List.map_set, List.map_replicate, List.nil_append, List.cons_append, List.append_assoc, eapi_Input, eapi_Output] at ehy91
      obtain ⟨y92, hy92, hr89⟩ := Option.bind_eq_some_iff.1 hr89
      have ehy92 := G_Lmill_Deck_Next_eq hy92
      try simp only [intsR_nil, intsR_cons, intsR_app, intsR_tk, intsR_dr, intsR_st, intsR_rep, List.map_nil, List.map_cons, List.map_append, List.map_take, List.map_drop, List.map_set, List.map_replicate, List.nil_append, List.cons_append, List.append_assoc, eapi_Input, eapi_Output] at ehy92
      obtain ⟨y93, hy93, hr89⟩ := Option.bind_eq_some_iff.1 hr89
      have ehy93 := G_Lmade_Script_eq hy93
      try simp only [intsR_nil, intsR_cons, intsR_app, intsR_tk, intsR_dr, intsR_st, intsR_rep, List.map_nil, List.map_cons, List.map_append, List.map_take, List.map_drop, List.map_set, List.map_replicate, List.nil_append, List.cons_append, List.append_assoc, eapi_Input, eapi_Output] at ehy93
      obtain ⟨_, u94, hr89⟩ := Option.bind_eq_some_iff.1 hr89
      have u94_0 := chk_some u94
      have n1_u94_0 : (p52.length + 1) * 32 ≤ 140737488355328 := by omega
      have n2_u94_0 : p52.length + 1 ≤ 9223372036854775807 := by omega
      refine ee_draw rfl (by simp [-chunk, -Cell.isSl, -callOp, callOp_eq, hT27, ehy91, ehy92, hT18, ehy93, n1_u94_0, n2_u94_0, c76, c90]; first | exact ⟨rfl, rfl⟩ | rfl) (by kernel_rfl) ?_
      simp only [outOf, thenQ, QL, if_true, ite_true, reduceCtorEq, if_false]
      refine ee_reg rfl (by simp [-chunk, -Cell.isSl, -callOp, callOp_eq, c76, c90]; rfl) ?_
      obtain rfl := Option.some.inj hr89
      simp only [outOf, thenQ, QL, if_true, ite_true, reduceCtorEq, if_false]
      simp [und, List.replicate, Nat.add_assoc, c76, c90]
    · skip
      rw [if_neg] at hr89
      rotate_left
      · simp [c76, c90]
      refine ee_seq_condF (by simp [bV, c76, c90]) ?_
      refine ee_seq_exit ?_
      obtain ⟨r95, q95, rfl⟩ := Option.map_eq_some_iff.1 hr89
      simp only [outOf, thenQ, QL, if_true, ite_true, reduceCtorEq, if_false]
      rintro rfl
      try simp only [outOf, thenQ, QL, if_true, ite_true, reduceCtorEq, if_false]
      unfold Lmill_Tx_k2 at q95
      refine ee_seq_reg rfl (by simp [-chunk, -Cell.isSl, -callOp, callOp_eq, c76, c90]; rfl) ?_
      refine ee_ret ?_
      obtain rfl := Option.some.inj q95
      simp [FinQ, -chunk, -Cell.isSl, -callOp, callOp_eq, c76, c90]
def kp9 : Keep := fun i => if i = 3 then ⟨[0, 5, 6], [39, 1000000], [(5, none, 39, 38)]⟩ else ⟨[], [], []⟩
theorem w9 {T : Tab} (hT18 : T 18 = some G_Lmade_Script) (hT27 : T 27 = some G_Lmill_Deck_Next) (hT28 : T 28 = some G_Lmill_Deck_Range) (a0 : Tlightclientmill_Deck) (a1 : Int) (x : (List Tapi_Spendable) × Tlightclientmill_Deck) (hr : Lmill_Spendables a0 a1 = some x) : ∃ kp fl n, execFn tt T G kp fl n Try.f9 [.io ([.slice .no (intsR .i64 a0.1), .v (.int .i64 a0.2)]), .one (.v (.int .i64 a1))] = some (.one (.own 38 (List.map eapi_Spendable x.1)), [[.slice .no (intsR .i64 x.2.1), .v (.int .i64 x.2.2)]]) := by
  refine fnE (kp := kp9) (w := true) body9 ?_
  unfold c9
  rw [Try.ntmps9]
  unfold Lmill_Spendables at hr
  refine ee_seq_reg rfl (by simp [-chunk, -Cell.isSl, -callOp, callOp_eq, ]; rfl) ?_
  refine ee_seq_reg rfl (by simp [-chunk, -Cell.isSl, -callOp, callOp_eq, ]; rfl) ?_
  refine ee_assoc ?_
  obtain ⟨y35, hy35, hr⟩ := Option.bind_eq_some_iff.1 hr
  have ehy35 := G_Lmill_Deck_Next_eq hy35
  try simp only [intsR_nil, intsR_cons, intsR_app, intsR_tk, intsR_dr, intsR_st, intsR_rep, List.map_nil, List.map_cons, List.map_append, List.map_take, List.map_drop, List.map_set, List.map_replicate, List.nil_append, List.cons_append, List.append_assoc, eapi_Input, eapi_Output] at ehy35
  refine ee_seq_reg rfl (by simp [-chunk, -Cell.isSl, -callOp, callOp_eq, hT27, ehy35]; rfl) ?_
  refine ee_seq_block ?_
  refine ee_loop (kq := ⟨[0, 5, 6], [39, 1000000], [(5, none, 39, 38)]⟩) (H := fun (s : Int × Tlightclientmill_Deck × (List Tapi_Spendable)) => match s with | (p18, p19, p20) => (⟨([.ptr 1000000 0 0 0 2] ++ (und 4 ++ ([.one (.ms 39 0 0 (p20.length) 38), .one (.v (.int .i64 p18))] ++ (und 34))) : List PV), ([(39, ⟨0, 38, List.map eapi_Spendable p20, false, true⟩), (1000000, ⟨0, 2, [[.slice .no (intsR .i64 p19.1), .v (.int .i64 p19.2)]], false, false⟩)] : Boxes)⟩ : ASt)) (by kernel_rfl) hr (by simp [und, List.replicate, ]) ?_
  rintro ⟨p18, p19, p20⟩ x36r hr36
  simp only [Lmill_Spendables_s1] at hr36
  unfold b9_1
  simp only [und, List.replicate, List.cons_append, List.nil_append]
  refine ee_assoc ?_
  refine ee_seq_reg rfl (by simp [-chunk, -Cell.isSl, -callOp, callOp_eq, ]; rfl) ?_
  by_cases c37 : 0 < p18
  · skip
    rw [if_pos] at hr36
    rotate_left
    · simp [c37]
    refine ee_seq_condT (by simp [bV, c37]) ?_
    refine ee_seq_skip ?_
    refine ee_seq_block ?_
    have ap38 := arC_put (k := .u8) (zA 32) (i := 0) (by decide) (IntKind.u8.wrap (p18))
    obtain ⟨y39, hy39, hr36⟩ := Option.bind_eq_some_iff.1 hr36
    have ehy39 := G_Lmill_Deck_Next_eq hy39
    try simp only [intsR_nil, intsR_cons, intsR_app, intsR_tk, intsR_dr, intsR_st, intsR_rep, List.map_nil, List.map_cons, List.map_append, List.map_take, List.map_drop, List.map_set, List.map_replicate, List.nil_append, List.cons_append, List.append_assoc, eapi_Input, eapi_Output, eapi_Spendable] at ehy39
    obtain ⟨y40, hy40, hr36⟩ := Option.bind_eq_some_iff.1 hr36
    have ehy40 := G_Lmill_Deck_Next_eq hy40
    try simp only [intsR_nil, intsR_cons, intsR_app, intsR_tk, intsR_dr, intsR_st, intsR_rep, List.map_nil, List.map_cons, List.map_append, List.map_take, List.map_drop, List.map_set, List.map_replicate, List.nil_append, List.cons_append, List.append_assoc, eapi_Input, eapi_Output, eapi_Spendable] at ehy40
    obtain ⟨y41, hy41, hr36⟩ := Option.bind_eq_some_iff.1 hr36
    have ehy41 := G_Lmill_Deck_Next_eq hy41
    try simp only [intsR_nil, intsR_cons, intsR_app, intsR_tk, intsR_dr, intsR_st, intsR_rep, List.map_nil, List.map_cons, List.map_append, List.map_take, List.map_drop, List.map_set, List.map_replicate, List.nil_append, List.cons_append, List.append_assoc, eapi_Input, eapi_Output, eapi_Spendable] at ehy41
    obtain ⟨y42, hy42, hr36⟩ := Option.bind_eq_some_iff.1 hr36
    have ehy42 := G_Lmade_Script_eq hy42
    try simp only [intsR_nil, intsR_cons, intsR_app, intsR_tk, intsR_dr, intsR_st, intsR_rep, List.map_nil, List.map_cons, List.map_append, List.map_take, List.map_drop, List.map_set, List.map_replicate, List.nil_append, List.cons_append, List.append_assoc, eapi_Input, eapi_Output, eapi_Spendable] at ehy42
    obtain ⟨y43, hy43, hr36⟩ := Option.bind_eq_some_iff.1 hr36
    have ehy43 := G_Lmill_Deck_Range_eq hy43
    try simp only [intsR_nil, intsR_cons, intsR_app, intsR_tk, intsR_dr, intsR_st, intsR_rep, List.map_nil, List.map_cons, List.map_append, List.map_take, List.map_drop, List.map_set, List.map_replicate, List.nil_append, List.cons_append, List.append_assoc, eapi_Input, eapi_Output, eapi_Spendable] at ehy43
    refine ee_seq_reg rfl (by simp [-chunk, -Cell.isSl, -callOp, callOp_eq, ap38, hT27, ehy39, ehy40, ehy41, hT18, ehy42, hT28, ehy43, c37]; rfl) ?_
    obtain ⟨y44, hy44, hr36⟩ := Option.bind_eq_some_iff.1 hr36
    have ehy44 := G_Lmill_Deck_Next_eq hy44
    try simp only [intsR_nil, intsR_cons, intsR_app, intsR_tk, intsR_dr, intsR_st, intsR_rep, List.map_nil, List.map_cons, List.map_append, List.map_take, List.map_drop, List.map_set, List.map_replicate, List.nil_append, List.cons_append, List.append_assoc, eapi_Input, eapi_Output, eapi_Spendable] at ehy44
    obtain ⟨_, u45, hr36⟩ := Option.bind_eq_some_iff.1 hr36
    have u45_0 := chk_some u45
    have n1_u45_0 : (p20.length + 1) * 96 ≤ 140737488355328 := by omega
    have n2_u45_0 : p20.length + 1 ≤ 9223372036854775807 := by omega
    refine ee_draw rfl (by simp [-chunk, -Cell.isSl, -callOp, callOp_eq, hT27, ehy44, n1_u45_0, n2_u45_0, c37]; first | exact ⟨rfl, rfl⟩ | rfl) (by kernel_rfl) ?_
    simp only [outOf, thenQ, QL, if_true, ite_true, reduceCtorEq, if_false]
    refine ee_reg rfl (by simp [-chunk, -Cell.isSl, -callOp, callOp_eq, c37]; rfl) ?_
    obtain rfl := Option.some.inj hr36
    simp only [outOf, thenQ, QL, if_true, ite_true, reduceCtorEq, if_false]
    simp [und, List.replicate, Nat.add_assoc, c37]
  · skip
    rw [if_neg] at hr36
    rotate_left
    · simp [c37]
    refine ee_seq_condF (by simp [bV, c37]) ?_
    refine ee_seq_exit ?_
    obtain ⟨r46, q46, rfl⟩ := Option.map_eq_some_iff.1 hr36
    simp only [outOf, thenQ, QL, if_true, ite_true, reduceCtorEq, if_false]
    rintro rfl
    try simp only [outOf, thenQ, QL, if_true, ite_true, reduceCtorEq, if_false]
    unfold Lmill_Spendables_k1 at q46
    refine ee_seq_reg rfl (by simp [-chunk, -Cell.isSl, -callOp, callOp_eq, c37]; rfl) ?_
    refine ee_ret ?_
    obtain rfl := Option.some.inj q46
    simp [FinQ, -chunk, -Cell.isSl, -callOp, callOp_eq, c37]
def kp30 : Keep := fun i => ⟨[], [], []⟩
theorem w30 {T : Tab} (a0 : Int) (a1 : Int) (a2 : Int) (x : Bool) (hr : Lref34_in a0 a1 a2 = some x) : ∃ kp fl n, execFn tt T G kp fl n Try.f30 [.one (.v (.int .i64 a0)), .one (.v (.int .i64 a1)), .one (.v (.int .i64 a2))] = some (.one (.v (.bool x)), []) := by
  refine fnE (kp := kp30) (w := false) body30 ?_
  unfold c30
  rw [Try.ntmps30]
  unfold Lref34_in at hr
  refine ee_seq_reg rfl (by simp [-chunk, -Cell.isSl, -callOp, callOp_eq, ]; rfl) ?_
  by_cases c1 : a1 ≤ a0
  · skip
    refine ee_seq_reg rfl (by simp [-chunk, -Cell.isSl, -callOp, callOp_eq, c1]; rfl) ?_
    refine ee_ret ?_
    obtain rfl := Option.some.inj hr
    simp [FinQ, -chunk, -Cell.isSl, -callOp, callOp_eq, c1]
  · skip
    refine ee_seq_reg rfl (by simp [-chunk, -Cell.isSl, -callOp, callOp_eq, c1]; rfl) ?_
    refine ee_ret ?_
    obtain rfl := Option.some.inj hr
    simp [FinQ, -chunk, -Cell.isSl, -callOp, callOp_eq, c1]
def kp12 : Keep := fun i => ⟨[], [], []⟩
theorem w12 {T : Tab} (hT30 : T 30 = some G_Lref34_in) (a0 : Int) (a1 : Int) (x : Int) (hr : Lref34_Fee a0 a1 = some x) : ∃ kp fl n, execFn tt T G kp fl n Try.f12 [.one (.v (.int .i64 a0)), .one (.v (.int .i64 a1))] = some (.one (.v (.int .i64 x)), []) := by
  refine fnE (kp := kp12) (w := false) body12 ?_
  unfold c12
  rw [Try.ntmps12]
  unfold Lref34_Fee at hr
  refine ee_seq_reg rfl (by simp [-chunk, -Cell.isSl, -callOp, callOp_eq, ]; rfl) ?_
  refine ee_assoc ?_
  obtain ⟨y4, hy4, hr⟩ := Option.bind_eq_some_iff.1 hr
  have ehy4 := G_Lref34_in_eq hy4
  try simp only [intsR_nil, intsR_cons, intsR_app, intsR_tk, intsR_dr, intsR_st, intsR_rep, List.map_nil, List.map_cons, List.map_append, List.map_take, List.map_drop, List.map_set, List.map_replicate, List.nil_append, List.cons_append, List.append_assoc, eapi_Input, eapi_Output, eapi_Spendable] at ehy4
  by_cases c5 : y4 = true
  · skip
    rw [if_neg] at hr
    rotate_left
    · simp [c5]
    obtain ⟨z6, hz6, hr⟩ := Option.bind_eq_some_iff.1 hr
    obtain ⟨y7, hy7, hz6⟩ := Option.bind_eq_some_iff.1 hz6
    have ehy7 := G_Lref34_in_eq hy7
    try simp only [intsR_nil, intsR_cons, intsR_app, intsR_tk, intsR_dr, intsR_st, intsR_rep, List.map_nil, List.map_cons, List.map_append, List.map_take, List.map_drop, List.map_set, List.map_replicate, List.nil_append, List.cons_append, List.append_assoc, eapi_Input, eapi_Output, eapi_Spendable] at ehy7
    obtain rfl := Option.some.inj hz6
    refine ee_seq_reg rfl (by simp [-chunk, -Cell.isSl, -callOp, callOp_eq, hT30, ehy4, ehy7, c5]; rfl) ?_
    by_cases c8 : y7 = true
    · skip
      rw [if_neg] at hr
      rotate_left
      · simp [c5, c8]
      refine ee_seq_condF (by simp [bV, c5, c8]) ?_
      refine ee_seq_skip ?_
      refine ee_seq_reg rfl (by simp [-chunk, -Cell.isSl, -callOp, callOp_eq, c5, c8]; rfl) ?_
      refine ee_ret ?_
      obtain rfl := Option.some.inj hr
      simp [FinQ, -chunk, -Cell.isSl, -callOp, callOp_eq, c5, c8]
    · skip
      rw [if_pos] at hr
      rotate_left
      · simp [c5, c8]
      refine ee_seq_condT (by simp [bV, c5, c8]) ?_
      refine ee_assoc ?_
      refine ee_seq_reg rfl (by simp [-chunk, -Cell.isSl, -callOp, callOp_eq, c5, c8]; rfl) ?_
      refine ee_seq_ret ?_
      obtain rfl := Option.some.inj hr
      simp [FinQ, -chunk, -Cell.isSl, -callOp, callOp_eq, c5, c8]
  · skip
    rw [if_pos] at hr
    rotate_left
    · simp [c5]
    obtain ⟨z9, hz9, hr⟩ := Option.bind_eq_some_iff.1 hr
    obtain rfl := Option.some.inj hz9
    refine ee_seq_reg rfl (by simp [-chunk, -Cell.isSl, -callOp, callOp_eq, hT30, ehy4, c5]; rfl) ?_
    rw [if_pos] at hr
    rotate_left
    · simp [c5]
    refine ee_seq_condT (by simp [bV, c5]) ?_
    refine ee_assoc ?_
    refine ee_seq_reg rfl (by simp [-chunk, -Cell.isSl, -callOp, callOp_eq, c5]; rfl) ?_
    refine ee_seq_ret ?_
    obtain rfl := Option.some.inj hr
    simp [FinQ, -chunk, -Cell.isSl, -callOp, callOp_eq, c5]
def kp14 : Keep := fun i => ⟨[], [], []⟩
theorem w14 {T : Tab} (a0 : Tapi_Spendable) (x : Int) (hr : Lref34_InputWeight a0 = some x) : ∃ kp fl n, execFn tt T G kp fl n Try.f14 [.agg ((arC .u8 a0.1.1.1) ++ ((.v (.int .u32 a0.1.1.2)) :: ((.v (.int .i64 a0.1.2.1.1)) :: ((.slice .no (intsR .u8 a0.1.2.1.2)) :: ((.v (.int .i64 a0.1.2.2.1)) :: ((.v (.bool a0.1.2.2.2)) :: ((.v (.int .i64 a0.2)) :: [])))))))] = some (.one (.v (.int .i64 x)), []) := by
  refine fnE (kp := kp14) (w := false) body14 ?_
  unfold c14
  rw [Try.ntmps14]
  unfold Lref34_InputWeight at hr
  refine ee_seq_reg rfl (by simp [-chunk, -Cell.isSl, -callOp, callOp_eq, ]; rfl) ?_
  refine ee_seq_reg rfl (by simp [-chunk, -Cell.isSl, -callOp, callOp_eq, ]; rfl) ?_
  refine ee_ret ?_
  obtain rfl := Option.some.inj hr
  simp [FinQ, -chunk, -Cell.isSl, -callOp, callOp_eq, ]
end Go.Proofs.Ytanhccemhpmnhaa
