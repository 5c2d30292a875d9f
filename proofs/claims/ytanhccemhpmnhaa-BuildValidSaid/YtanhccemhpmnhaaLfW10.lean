import Derived.Test.YtanhccemhpmnhaaLfK
import Derived.Test.YtanhccemhpmnhaaCode
namespace Go.Proofs.Ytanhccemhpmnhaa
open Go.RowKit
open Go.Av
open Go.Lc
set_option maxRecDepth 100000
set_option maxHeartbeats 4000000
set_option linter.unusedSimpArgs false
set_option linter.unusedVariables false
variable {G : Glob}
def kp4 : Keep := fun i => ⟨[], [], []⟩
@[local simp] theorem pureLL_set2 {n m : Nat} {els : List (List Cell)} {l l2 : List Cell} (h : pureLL els = true) (hl : pureL l = true) (hl2 : pureL l2 = true) : pureLL ((els.set n l).set m l2) = true := pureLL_set (pureLL_set h hl) hl2
theorem w4 {T : Tab} (hT6 : T 6 = some G_Llaw34_sane) (hT7 : T 7 = some G_Lmill_New) (hT10 : T 10 = some G_Lmill_Mod) (hT17 : T 17 = some G_Lmill_Plan) (hT18 : T 18 = some G_Lmade_Script) (hT19 : T 19 = some G_Lmade_Null) (hT20 : T 20 = some G_Lbuild_Valid) (hT21 : T 21 = some G_Lref34_Valid) (a0 : (List Int)) (a1 : Int) (a2 : Int) (x : Bool) (hr : Llaw34_BuildValid a0 a1 a2 = some x) : ∃ kp fl n, execFn tt T G kp fl n Try.f4 [.one (.slice .no (intsR .i64 a0)), .one (.v (.int .i64 a1)), .one (.v (.int .i64 a2))] = some (.one (.v (.bool x)), []) := by
  refine fnE (kp := kp4) (w := false) body4 ?_
  unfold c4
  rw [Try.ntmps4]
  unfold Llaw34_BuildValid at hr
  refine ee_seq_reg rfl (by simp [-chunk, -Cell.isSl, -callOp, callOp_eq, ]; rfl) ?_
  refine ee_assoc ?_
  obtain ⟨y50, hy50, hr⟩ := Option.bind_eq_some_iff.1 hr
  have ehy50 := G_Llaw34_sane_eq hy50
  try simp only [intsR_nil, intsR_cons, intsR_app, intsR_tk, intsR_dr, intsR_st, intsR_rep, List.map_nil, List.map_cons, List.map_append, List.map_take, List.map_drop, List.map_set, List.map_replicate, List.nil_append, List.cons_append, List.append_assoc, eapi_Input, eapi_Output, eapi_Spendable, eS_I_u8, eapi_Coin] at ehy50
  refine ee_seq_reg rfl (by simp [-chunk, -Cell.isSl, -callOp, callOp_eq, hT6, ehy50]; rfl) ?_
  by_cases c51 : y50 = true
  · skip
    rw [if_neg] at hr
    rotate_left
    · simp [c51]
    refine ee_seq_condF (by simp [bV, c51]) ?_
    refine ee_seq_skip ?_
    obtain ⟨y52, hy52, hr⟩ := Option.bind_eq_some_iff.1 hr
    have ehy52 := G_Lmill_New_eq hy52
    try simp only [intsR_nil, intsR_cons, intsR_app, intsR_tk, intsR_dr, intsR_st, intsR_rep, List.map_nil, List.map_cons, List.map_append, List.map_take, List.map_drop, List.map_set, List.map_replicate, List.nil_append, List.cons_append, List.append_assoc, eapi_Input, eapi_Output, eapi_Spendable, eS_I_u8, eapi_Coin] at ehy52
    refine ee_seq_reg rfl (by simp [-chunk, -Cell.isSl, -callOp, callOp_eq, hT7, ehy52, c51]; rfl) ?_
    obtain ⟨y53, hy53, hr⟩ := Option.bind_eq_some_iff.1 hr
    have ehy53 := G_Lmade_Script_eq hy53
    try simp only [intsR_nil, intsR_cons, intsR_app, intsR_tk, intsR_dr, intsR_st, intsR_rep, List.map_nil, List.map_cons, List.map_append, List.map_take, List.map_drop, List.map_set, List.map_replicate, List.nil_append, List.cons_append, List.append_assoc, eapi_Input, eapi_Output, eapi_Spendable, eS_I_u8, eapi_Coin] at ehy53
    obtain ⟨y54, hy54, hr⟩ := Option.bind_eq_some_iff.1 hr
    have ehy54 := G_Lmade_Script_eq hy54
    try simp only [intsR_nil, intsR_cons, intsR_app, intsR_tk, intsR_dr, intsR_st, intsR_rep, List.map_nil, List.map_cons, List.map_append, List.map_take, List.map_drop, List.map_set, List.map_replicate, List.nil_append, List.cons_append, List.append_assoc, eapi_Input, eapi_Output, eapi_Spendable, eS_I_u8, eapi_Coin] at ehy54
    obtain ⟨y55, hy55, hr⟩ := Option.bind_eq_some_iff.1 hr
    have ehy55 := G_Lmill_Plan_eq hy55
    try simp only [intsR_nil, intsR_cons, intsR_app, intsR_tk, intsR_dr, intsR_st, intsR_rep, List.map_nil, List.map_cons, List.map_append, List.map_take, List.map_drop, List.map_set, List.map_replicate, List.nil_append, List.cons_append, List.append_assoc, eapi_Input, eapi_Output, eapi_Spendable, eS_I_u8, eapi_Coin] at ehy55
    refine ee_seq_reg rfl (by simp [-chunk, -Cell.isSl, -callOp, callOp_eq, hT18, ehy53, ehy54, List.range, List.range.loop, hT17, ehy55, c51]; rfl) ?_
    refine ee_seq_reg rfl (by simp [-chunk, -Cell.isSl, -callOp, callOp_eq, c51]; rfl) ?_
    obtain ⟨_, u56, hr⟩ := Option.bind_eq_some_iff.1 hr
    have u56_0 := chk_some u56
    have n1_u56_0 : (y55.1.1.2.1.length) * 64 ≤ 140737488355328 := by omega
    have n2_u56_0 : y55.1.1.2.1.length ≤ 9223372036854775807 := by omega
    refine ee_seq_reg rfl (by simp [-chunk, -Cell.isSl, -callOp, callOp_eq, n1_u56_0, n2_u56_0, c51]; rfl) ?_
    obtain ⟨_, u57, hr⟩ := Option.bind_eq_some_iff.1 hr
    have u57_0 := chk_some u57
    have n1_u57_0 : (y55.1.2.1.length) * 88 ≤ 140737488355328 := by omega
    have n2_u57_0 : y55.1.2.1.length ≤ 9223372036854775807 := by omega
    refine ee_seq_reg rfl (by simp [-chunk, -Cell.isSl, -callOp, callOp_eq, n1_u57_0, n2_u57_0, c51]; rfl) ?_
    refine ee_assoc ?_
    obtain ⟨y58, hy58, hr⟩ := Option.bind_eq_some_iff.1 hr
    have ehy58 := G_Lmill_Mod_eq hy58
    try simp only [intsR_nil, intsR_cons, intsR_app, intsR_tk, intsR_dr, intsR_st, intsR_rep, List.map_nil, List.map_cons, List.map_append, List.map_take, List.map_drop, List.map_set, List.map_replicate, List.nil_append, List.cons_append, List.append_assoc, eapi_Input, eapi_Output, eapi_Spendable, eS_I_u8, eapi_Coin] at ehy58
    refine ee_seq_reg rfl (by simp [-chunk, -Cell.isSl, -callOp, callOp_eq, hT10, ehy58, c51]; rfl) ?_
    refine ee_seq_block ?_
    refine ee_seq_reg rfl (by simp [-chunk, -Cell.isSl, -callOp, callOp_eq, c51]; rfl) ?_
    by_cases c59 : y58 = 0
    · skip
      rw [if_pos] at hr
      rotate_left
      · simp [c51, eq_true c59]
      refine ee_condT (by simp [bV, c51, eq_true c59]) ?_
      obtain ⟨y60, hy60, hr⟩ := Option.bind_eq_some_iff.1 hr
      have ehy60 := G_Lmill_Mod_eq hy60
      try simp only [intsR_nil, intsR_cons, intsR_app, intsR_tk, intsR_dr, intsR_st, intsR_rep, List.map_nil, List.map_cons, List.map_append, List.map_take, List.map_drop, List.map_set, List.map_replicate, List.nil_append, List.cons_append, List.append_assoc, eapi_Input, eapi_Output, eapi_Spendable, eS_I_u8, eapi_Coin] at ehy60
      refine ee_draw rfl (by simp [-chunk, -Cell.isSl, -callOp, callOp_eq, hT10, ehy60, c51, eq_true c59]; first | exact ⟨rfl, rfl⟩ | rfl) (by kernel_rfl) ?_
      simp only [outOf, thenQ, QL, if_true, ite_true, reduceCtorEq, if_false]
      unfold Llaw34_BuildValid_k1 at hr
      obtain ⟨y61, hy61, hr⟩ := Option.bind_eq_some_iff.1 hr
      have ehy61 := G_Lbuild_Valid_eq hy61
      try simp only [intsR_nil, intsR_cons, intsR_app, intsR_tk, intsR_dr, intsR_st, intsR_rep, List.map_nil, List.map_cons, List.map_append, List.map_take, List.map_drop, List.map_set, List.map_replicate, List.nil_append, List.cons_append, List.append_assoc, eapi_Input, eapi_Output, eapi_Spendable, eS_I_u8, eapi_Coin] at ehy61
      obtain ⟨y62, hy62, hr⟩ := Option.bind_eq_some_iff.1 hr
      have ehy62 := G_Lref34_Valid_eq hy62
      try simp only [intsR_nil, intsR_cons, intsR_app, intsR_tk, intsR_dr, intsR_st, intsR_rep, List.map_nil, List.map_cons, List.map_append, List.map_take, List.map_drop, List.map_set, List.map_replicate, List.nil_append, List.cons_append, List.append_assoc, eapi_Input, eapi_Output, eapi_Spendable, eS_I_u8, eapi_Coin] at ehy62
      by_cases c63 : (y61 == y62) = true
      · skip
        rw [if_pos] at hr
        rotate_left
        · simp [c51, eq_true c59, c63]
        obtain ⟨z64, hz64, hr⟩ := Option.bind_eq_some_iff.1 hr
        obtain ⟨y65, hy65, hz64⟩ := Option.bind_eq_some_iff.1 hz64
        have ehy65 := G_Lbuild_Valid_eq hy65
        try simp only [intsR_nil, intsR_cons, intsR_app, intsR_tk, intsR_dr, intsR_st, intsR_rep, List.map_nil, List.map_cons, List.map_append, List.map_take, List.map_drop, List.map_set, List.map_replicate, List.nil_append, List.cons_append, List.append_assoc, eapi_Input, eapi_Output, eapi_Spendable, eS_I_u8, eapi_Coin] at ehy65
        obtain ⟨y66, hy66, hz64⟩ := Option.bind_eq_some_iff.1 hz64
        have ehy66 := G_Lref34_Valid_eq hy66
        try simp only [intsR_nil, intsR_cons, intsR_app, intsR_tk, intsR_dr, intsR_st, intsR_rep, List.map_nil, List.map_cons, List.map_append, List.map_take, List.map_drop, List.map_set, List.map_replicate, List.nil_append, List.cons_append, List.append_assoc, eapi_Input, eapi_Output, eapi_Spendable, eS_I_u8, eapi_Coin] at ehy66
        obtain rfl := Option.some.inj hz64
        refine ee_seq_draw rfl (by simp [-chunk, -Cell.isSl, -callOp, callOp_eq, hT20, ehy61, hT21, ehy62, ehy65, ehy66, c51, eq_true c59, c63]; first | exact ⟨rfl, rfl⟩ | rfl) (by kernel_rfl) ?_
        refine ee_ret ?_
        obtain rfl := Option.some.inj hr
        simp [FinQ, -chunk, -Cell.isSl, -callOp, callOp_eq, hT20, ehy61, hT21, ehy62, ehy65, ehy66, c51, eq_true c59, c63]
      · skip
        rw [if_neg] at hr
        rotate_left
        · simp [c51, eq_true c59, c63]
        obtain ⟨z67, hz67, hr⟩ := Option.bind_eq_some_iff.1 hr
        obtain rfl := Option.some.inj hz67
        refine ee_seq_draw rfl (by simp [-chunk, -Cell.isSl, -callOp, callOp_eq, hT20, ehy61, hT21, ehy62, c51, eq_true c59, c63]; first | exact ⟨rfl, rfl⟩ | rfl) (by kernel_rfl) ?_
        refine ee_ret ?_
        obtain rfl := Option.some.inj hr
        simp [FinQ, -chunk, -Cell.isSl, -callOp, callOp_eq, hT20, ehy61, hT21, ehy62, c51, eq_true c59, c63]
    · skip
      rw [if_neg] at hr
      rotate_left
      · simp [c51, c59]
      refine ee_condF (by simp [bV, c51, c59]) ?_
      refine ee_seq_reg rfl (by simp [-chunk, -Cell.isSl, -callOp, callOp_eq, c51, c59]; rfl) ?_
      by_cases c68 : y58 = 1
      · skip
        rw [if_pos] at hr
        rotate_left
        · simp [c51, c59, eq_true c68]
        refine ee_condT (by simp [bV, c51, c59, eq_true c68]) ?_
        obtain ⟨y69, hy69, hr⟩ := Option.bind_eq_some_iff.1 hr
        have ehy69 := G_Lmill_Mod_eq hy69
        try simp only [intsR_nil, intsR_cons, intsR_app, intsR_tk, intsR_dr, intsR_st, intsR_rep, List.map_nil, List.map_cons, List.map_append, List.map_take, List.map_drop, List.map_set, List.map_replicate, List.nil_append, List.cons_append, List.append_assoc, eapi_Input, eapi_Output, eapi_Spendable, eS_I_u8, eapi_Coin] at ehy69
        refine ee_reg rfl (by simp [-chunk, -Cell.isSl, -callOp, callOp_eq, hT10, ehy69, c51, c59, eq_true c68]; rfl) ?_
        simp only [outOf, thenQ, QL, if_true, ite_true, reduceCtorEq, if_false]
        unfold Llaw34_BuildValid_k1 at hr
        obtain ⟨y70, hy70, hr⟩ := Option.bind_eq_some_iff.1 hr
        have ehy70 := G_Lbuild_Valid_eq hy70
        try simp only [intsR_nil, intsR_cons, intsR_app, intsR_tk, intsR_dr, intsR_st, intsR_rep, List.map_nil, List.map_cons, List.map_append, List.map_take, List.map_drop, List.map_set, List.map_replicate, List.nil_append, List.cons_append, List.append_assoc, eapi_Input, eapi_Output, eapi_Spendable, eS_I_u8, eapi_Coin] at ehy70
        obtain ⟨y71, hy71, hr⟩ := Option.bind_eq_some_iff.1 hr
        have ehy71 := G_Lref34_Valid_eq hy71
        try simp only [intsR_nil, intsR_cons, intsR_app, intsR_tk, intsR_dr, intsR_st, intsR_rep, List.map_nil, List.map_cons, List.map_append, List.map_take, List.map_drop, List.map_set, List.map_replicate, List.nil_append, List.cons_append, List.append_assoc, eapi_Input, eapi_Output, eapi_Spendable, eS_I_u8, eapi_Coin] at ehy71
        by_cases c72 : (y70 == y71) = true
        · skip
          rw [if_pos] at hr
          rotate_left
          · simp [c51, c59, eq_true c68, c72]
          obtain ⟨z73, hz73, hr⟩ := Option.bind_eq_some_iff.1 hr
          obtain ⟨y74, hy74, hz73⟩ := Option.bind_eq_some_iff.1 hz73
          have ehy74 := G_Lbuild_Valid_eq hy74
          try simp only [intsR_nil, intsR_cons, intsR_app, intsR_tk, intsR_dr, intsR_st, intsR_rep, List.map_nil, List.map_cons, List.map_append, List.map_take, List.map_drop, List.map_set, List.map_replicate, List.nil_append, List.cons_append, List.append_assoc, eapi_Input, eapi_Output, eapi_Spendable, eS_I_u8, eapi_Coin] at ehy74
          obtain ⟨y75, hy75, hz73⟩ := Option.bind_eq_some_iff.1 hz73
          have ehy75 := G_Lref34_Valid_eq hy75
          try simp only [intsR_nil, intsR_cons, intsR_app, intsR_tk, intsR_dr, intsR_st, intsR_rep, List.map_nil, List.map_cons, List.map_append, List.map_take, List.map_drop, List.map_set, List.map_replicate, List.nil_append, List.cons_append, List.append_assoc, eapi_Input, eapi_Output, eapi_Spendable, eS_I_u8, eapi_Coin] at ehy75
          obtain rfl := Option.some.inj hz73
          refine ee_seq_draw rfl (by simp [-chunk, -Cell.isSl, -callOp, callOp_eq, hT20, ehy70, hT21, ehy71, ehy74, ehy75, c51, c59, eq_true c68, c72]; first | exact ⟨rfl, rfl⟩ | rfl) (by kernel_rfl) ?_
          refine ee_ret ?_
          obtain rfl := Option.some.inj hr
          simp [FinQ, -chunk, -Cell.isSl, -callOp, callOp_eq, hT20, ehy70, hT21, ehy71, ehy74, ehy75, c51, c59, eq_true c68, c72]
        · skip
          rw [if_neg] at hr
          rotate_left
          · simp [c51, c59, eq_true c68, c72]
          obtain ⟨z76, hz76, hr⟩ := Option.bind_eq_some_iff.1 hr
          obtain rfl := Option.some.inj hz76
          refine ee_seq_draw rfl (by simp [-chunk, -Cell.isSl, -callOp, callOp_eq, hT20, ehy70, hT21, ehy71, c51, c59, eq_true c68, c72]; first | exact ⟨rfl, rfl⟩ | rfl) (by kernel_rfl) ?_
          refine ee_ret ?_
          obtain rfl := Option.some.inj hr
          simp [FinQ, -chunk, -Cell.isSl, -callOp, callOp_eq, hT20, ehy70, hT21, ehy71, c51, c59, eq_true c68, c72]
      · skip
        rw [if_neg] at hr
        rotate_left
        · simp [c51, c59, c68]
        refine ee_condF (by simp [bV, c51, c59, c68]) ?_
        refine ee_seq_reg rfl (by simp [-chunk, -Cell.isSl, -callOp, callOp_eq, c51, c59, c68]; rfl) ?_
        by_cases c77 : y58 = 2
        · skip
          rw [if_pos] at hr
          rotate_left
          · simp [c51, c59, c68, eq_true c77]
          refine ee_condT (by simp [bV, c51, c59, c68, eq_true c77]) ?_
          obtain ⟨y78, hy78, hr⟩ := Option.bind_eq_some_iff.1 hr
          have ehy78 := G_Lmill_Mod_eq hy78
          try simp only [intsR_nil, intsR_cons, intsR_app, intsR_tk, intsR_dr, intsR_st, intsR_rep, List.map_nil, List.map_cons, List.map_append, List.map_take, List.map_drop, List.map_set, List.map_replicate, List.nil_append, List.cons_append, List.append_assoc, eapi_Input, eapi_Output, eapi_Spendable, eS_I_u8, eapi_Coin] at ehy78
          obtain ⟨j79, hj79, hr⟩ := Option.bind_eq_some_iff.1 hr
          obtain ⟨j79a, j79b, j79c⟩ := inA_some hj79
          obtain ⟨x80, hx80, hr⟩ := Option.bind_eq_some_iff.1 hr
          have ghx80 := getE_of hx80
          refine ee_draw rfl (by simp [-chunk, -Cell.isSl, -callOp, callOp_eq, hT10, ehy78, j79a, j79b, j79c, hx80, ghx80, c51, c59, c68, eq_true c77]; first | exact ⟨rfl, rfl⟩ | rfl) (by kernel_rfl) ?_
          simp only [outOf, thenQ, QL, if_true, ite_true, reduceCtorEq, if_false]
          unfold Llaw34_BuildValid_k1 at hr
          obtain ⟨y81, hy81, hr⟩ := Option.bind_eq_some_iff.1 hr
          have ehy81 := G_Lbuild_Valid_eq hy81
          try simp only [intsR_nil, intsR_cons, intsR_app, intsR_tk, intsR_dr, intsR_st, intsR_rep, List.map_nil, List.map_cons, List.map_append, List.map_take, List.map_drop, List.map_set, List.map_replicate, List.nil_append, List.cons_append, List.append_assoc, eapi_Input, eapi_Output, eapi_Spendable, eS_I_u8, eapi_Coin] at ehy81
          obtain ⟨y82, hy82, hr⟩ := Option.bind_eq_some_iff.1 hr
          have ehy82 := G_Lref34_Valid_eq hy82
          try simp only [intsR_nil, intsR_cons, intsR_app, intsR_tk, intsR_dr, intsR_st, intsR_rep, List.map_nil, List.map_cons, List.map_append, List.map_take, List.map_drop, List.map_set, List.map_replicate, List.nil_append, List.cons_append, List.append_assoc, eapi_Input, eapi_Output, eapi_Spendable, eS_I_u8, eapi_Coin] at ehy82
          by_cases c83 : (y81 == y82) = true
          · skip
            rw [if_pos] at hr
            rotate_left
            · simp [c51, c59, c68, eq_true c77, c83]
            obtain ⟨z84, hz84, hr⟩ := Option.bind_eq_some_iff.1 hr
            obtain ⟨y85, hy85, hz84⟩ := Option.bind_eq_some_iff.1 hz84
            have ehy85 := G_Lbuild_Valid_eq hy85
            try simp only [intsR_nil, intsR_cons, intsR_app, intsR_tk, intsR_dr, intsR_st, intsR_rep, List.map_nil, List.map_cons, List.map_append, List.map_take, List.map_drop, List.map_set, List.map_replicate, List.nil_append, List.cons_append, List.append_assoc, eapi_Input, eapi_Output, eapi_Spendable, eS_I_u8, eapi_Coin] at ehy85
            obtain ⟨y86, hy86, hz84⟩ := Option.bind_eq_some_iff.1 hz84
            have ehy86 := G_Lref34_Valid_eq hy86
            try simp only [intsR_nil, intsR_cons, intsR_app, intsR_tk, intsR_dr, intsR_st, intsR_rep, List.map_nil, List.map_cons, List.map_append, List.map_take, List.map_drop, List.map_set, List.map_replicate, List.nil_append, List.cons_append, List.append_assoc, eapi_Input, eapi_Output, eapi_Spendable, eS_I_u8, eapi_Coin] at ehy86
            obtain rfl := Option.some.inj hz84
            refine ee_seq_draw rfl (by simp [-chunk, -Cell.isSl, -callOp, callOp_eq, hT20, ehy81, hT21, ehy82, ehy85, ehy86, c51, c59, c68, eq_true c77, c83]; first | exact ⟨rfl, rfl⟩ | rfl) (by kernel_rfl) ?_
            refine ee_ret ?_
            obtain rfl := Option.some.inj hr
            simp [FinQ, -chunk, -Cell.isSl, -callOp, callOp_eq, hT20, ehy81, hT21, ehy82, ehy85, ehy86, c51, c59, c68, eq_true c77, c83]
          · skip
            rw [if_neg] at hr
            rotate_left
            · simp [c51, c59, c68, eq_true c77, c83]
            obtain ⟨z87, hz87, hr⟩ := Option.bind_eq_some_iff.1 hr
            obtain rfl := Option.some.inj hz87
            refine ee_seq_draw rfl (by simp [-chunk, -Cell.isSl, -callOp, callOp_eq, hT20, ehy81, hT21, ehy82, c51, c59, c68, eq_true c77, c83]; first | exact ⟨rfl, rfl⟩ | rfl) (by kernel_rfl) ?_
            refine ee_ret ?_
            obtain rfl := Option.some.inj hr
            simp [FinQ, -chunk, -Cell.isSl, -callOp, callOp_eq, hT20, ehy81, hT21, ehy82, c51, c59, c68, eq_true c77, c83]
        · skip
          rw [if_neg] at hr
          rotate_left
          · simp [c51, c59, c68, c77]
          refine ee_condF (by simp [bV, c51, c59, c68, c77]) ?_
          refine ee_seq_reg rfl (by simp [-chunk, -Cell.isSl, -callOp, callOp_eq, c51, c59, c68, c77]; rfl) ?_
          by_cases c88 : y58 = 3
          · skip
            rw [if_pos] at hr
            rotate_left
            · simp [c51, c59, c68, c77, eq_true c88]
            refine ee_condT (by simp [bV, c51, c59, c68, c77, eq_true c88]) ?_
            obtain ⟨_, u89, hr⟩ := Option.bind_eq_some_iff.1 hr
            have u89_0 := chk_some u89
            have sf90 : 1 ≤ y55.1.2.1.length := by omega
            refine ee_reg rfl (by simp [-chunk, -Cell.isSl, -callOp, callOp_eq, u89_0, sf90, c51, c59, c68, c77, eq_true c88]; rfl) ?_
            simp only [outOf, thenQ, QL, if_true, ite_true, reduceCtorEq, if_false]
            unfold Llaw34_BuildValid_k1 at hr
            obtain ⟨y91, hy91, hr⟩ := Option.bind_eq_some_iff.1 hr
            have ehy91 := G_Lbuild_Valid_eq hy91
            try simp only [intsR_nil, intsR_cons, intsR_app, intsR_tk, intsR_dr, intsR_st, intsR_rep, List.map_nil, List.map_cons, List.map_append, List.map_take, List.map_drop, List.map_set, List.map_replicate, List.nil_append, List.cons_append, List.append_assoc, eapi_Input, eapi_Output, eapi_Spendable, eS_I_u8, eapi_Coin] at ehy91
            obtain ⟨y92, hy92, hr⟩ := Option.bind_eq_some_iff.1 hr
            have ehy92 := G_Lref34_Valid_eq hy92
            try simp only [intsR_nil, intsR_cons, intsR_app, intsR_tk, intsR_dr, intsR_st, intsR_rep, List.map_nil, List.map_cons, List.map_append, List.map_take, List.map_drop, List.map_set, List.map_replicate, List.nil_append, List.cons_append, List.append_assoc, eapi_Input, eapi_Output, eapi_Spendable, eS_I_u8, eapi_Coin] at ehy92
            by_cases c93 : (y91 == y92) = true
            · skip
              rw [if_pos] at hr
              rotate_left
              · simp [c51, c59, c68, c77, eq_true c88, c93]
              obtain ⟨z94, hz94, hr⟩ := Option.bind_eq_some_iff.1 hr
              obtain ⟨y95, hy95, hz94⟩ := Option.bind_eq_some_iff.1 hz94
              have ehy95 := G_Lbuild_Valid_eq hy95
              try simp only [intsR_nil, intsR_cons, intsR_app, intsR_tk, intsR_dr, intsR_st, intsR_rep, List.map_nil, List.map_cons, List.map_append, List.map_take, List.map_drop, List.map_set, List.map_replicate, List.nil_append, List.cons_append, List.append_assoc, eapi_Input, eapi_Output, eapi_Spendable, eS_I_u8, eapi_Coin] at ehy95
              obtain ⟨y96, hy96, hz94⟩ := Option.bind_eq_some_iff.1 hz94
              have ehy96 := G_Lref34_Valid_eq hy96
              try simp only [intsR_nil, intsR_cons, intsR_app, intsR_tk, intsR_dr, intsR_st, intsR_rep, List.map_nil, List.map_cons, List.map_append, List.map_take, List.map_drop, List.map_set, List.map_replicate, List.nil_append, List.cons_append, List.append_assoc, eapi_Input, eapi_Output, eapi_Spendable, eS_I_u8, eapi_Coin] at ehy96
              obtain rfl := Option.some.inj hz94
              have sfx : 1 + (y55.1.2.1.length - 1) ≤ y55.1.2.1.length := by omega
              have tkx : List.take (y55.1.2.1.length - 1) (List.drop 1 (List.map eapi_Coin y55.1.2.1)) = (List.map eapi_Coin y55.1.2.1).tail := by rw [List.drop_one]; exact List.take_of_length_le (by simp)
              rw [tkx] at ehy95 ehy96
              refine ee_seq_draw rfl (by simp [-chunk, -Cell.isSl, -callOp, callOp_eq, hT20, ehy91, hT21, ehy92, ehy95, ehy96, sfx, c51, c59, c68, c77, eq_true c88, c93]; first | exact ⟨rfl, rfl⟩ | rfl) (by kernel_rfl) ?_
              refine ee_ret ?_
              obtain rfl := Option.some.inj hr
              simp [FinQ, -chunk, -Cell.isSl, -callOp, callOp_eq, hT20, ehy91, hT21, ehy92, ehy95, ehy96, sfx, c51, c59, c68, c77, eq_true c88, c93]
            · skip
              rw [if_neg] at hr
              rotate_left
              · simp [c51, c59, c68, c77, eq_true c88, c93]
              obtain ⟨z97, hz97, hr⟩ := Option.bind_eq_some_iff.1 hr
              obtain rfl := Option.some.inj hz97
              refine ee_seq_draw rfl (by simp [-chunk, -Cell.isSl, -callOp, callOp_eq, hT20, ehy91, hT21, ehy92, c51, c59, c68, c77, eq_true c88, c93]; first | exact ⟨rfl, rfl⟩ | rfl) (by kernel_rfl) ?_
              refine ee_ret ?_
              obtain rfl := Option.some.inj hr
              simp [FinQ, -chunk, -Cell.isSl, -callOp, callOp_eq, hT20, ehy91, hT21, ehy92, c51, c59, c68, c77, eq_true c88, c93]
          · skip
            rw [if_neg] at hr
            rotate_left
            · simp [c51, c59, c68, c77, c88]
            refine ee_condF (by simp [bV, c51, c59, c68, c77, c88]) ?_
            refine ee_seq_reg rfl (by simp [-chunk, -Cell.isSl, -callOp, callOp_eq, c51, c59, c68, c77, c88]; rfl) ?_
            by_cases c98 : y58 = 4
            · skip
              rw [if_pos] at hr
              rotate_left
              · simp [c51, c59, c68, c77, c88, eq_true c98]
              refine ee_condT (by simp [bV, c51, c59, c68, c77, c88, eq_true c98]) ?_
              obtain ⟨_, u99, hr⟩ := Option.bind_eq_some_iff.1 hr
              have u99_0 := chk_some u99
              obtain ⟨x100, hx100, hr⟩ := Option.bind_eq_some_iff.1 hr
              have ghx100 := getE_of hx100
              obtain ⟨_, u101, hr⟩ := Option.bind_eq_some_iff.1 hr
              have u101_0 := chk_some u101
              obtain ⟨x102, hx102, hr⟩ := Option.bind_eq_some_iff.1 hr
              have ghx102 := getE_of hx102
              obtain ⟨_, u103, hr⟩ := Option.bind_eq_some_iff.1 hr
              have u103_0 := chk_some u103
              obtain ⟨_, u104, hr⟩ := Option.bind_eq_some_iff.1 hr
              have u104_0 := chk_some u104
              refine ee_draw rfl (by simp [-chunk, -Cell.isSl, -callOp, callOp_eq, u99_0, hx100, ghx100, u101_0, hx102, ghx102, u103_0, u104_0, c51, c59, c68, c77, c88, eq_true c98]; first | exact ⟨rfl, rfl⟩ | rfl) (by kernel_rfl) ?_
              simp only [outOf, thenQ, QL, if_true, ite_true, reduceCtorEq, if_false]
              unfold Llaw34_BuildValid_k1 at hr
              obtain ⟨y105, hy105, hr⟩ := Option.bind_eq_some_iff.1 hr
              have ehy105 := G_Lbuild_Valid_eq hy105
              try simp only [intsR_nil, intsR_cons, intsR_app, intsR_tk, intsR_dr, intsR_st, intsR_rep, List.map_nil, List.map_cons, List.map_append, List.map_take, List.map_drop, List.map_set, List.map_replicate, List.nil_append, List.cons_append, List.append_assoc, eapi_Input, eapi_Output, eapi_Spendable, eS_I_u8, eapi_Coin] at ehy105
              obtain ⟨y106, hy106, hr⟩ := Option.bind_eq_some_iff.1 hr
              have ehy106 := G_Lref34_Valid_eq hy106
              try simp only [intsR_nil, intsR_cons, intsR_app, intsR_tk, intsR_dr, intsR_st, intsR_rep, List.map_nil, List.map_cons, List.map_append, List.map_take, List.map_drop, List.map_set, List.map_replicate, List.nil_append, List.cons_append, List.append_assoc, eapi_Input, eapi_Output, eapi_Spendable, eS_I_u8, eapi_Coin] at ehy106
              by_cases c107 : (y105 == y106) = true
              · skip
                rw [if_pos] at hr
                rotate_left
                · simp [c51, c59, c68, c77, c88, eq_true c98, c107]
                obtain ⟨z108, hz108, hr⟩ := Option.bind_eq_some_iff.1 hr
                obtain ⟨y109, hy109, hz108⟩ := Option.bind_eq_some_iff.1 hz108
                have ehy109 := G_Lbuild_Valid_eq hy109
                try simp only [intsR_nil, intsR_cons, intsR_app, intsR_tk, intsR_dr, intsR_st, intsR_rep, List.map_nil, List.map_cons, List.map_append, List.map_take, List.map_drop, List.map_set, List.map_replicate, List.nil_append, List.cons_append, List.append_assoc, eapi_Input, eapi_Output, eapi_Spendable, eS_I_u8, eapi_Coin] at ehy109
                obtain ⟨y110, hy110, hz108⟩ := Option.bind_eq_some_iff.1 hz108
                have ehy110 := G_Lref34_Valid_eq hy110
                try simp only [intsR_nil, intsR_cons, intsR_app, intsR_tk, intsR_dr, intsR_st, intsR_rep, List.map_nil, List.map_cons, List.map_append, List.map_take, List.map_drop, List.map_set, List.map_replicate, List.nil_append, List.cons_append, List.append_assoc, eapi_Input, eapi_Output, eapi_Spendable, eS_I_u8, eapi_Coin] at ehy110
                obtain rfl := Option.some.inj hz108
                refine ee_seq_draw rfl (by simp [-chunk, -Cell.isSl, -callOp, callOp_eq, hT20, ehy105, hT21, ehy106, ehy109, ehy110, c51, c59, c68, c77, c88, eq_true c98, c107]; first | exact ⟨rfl, rfl⟩ | rfl) (by kernel_rfl) ?_
                refine ee_ret ?_
                obtain rfl := Option.some.inj hr
                simp [FinQ, -chunk, -Cell.isSl, -callOp, callOp_eq, hT20, ehy105, hT21, ehy106, ehy109, ehy110, c51, c59, c68, c77, c88, eq_true c98, c107]
              · skip
                rw [if_neg] at hr
                rotate_left
                · simp [c51, c59, c68, c77, c88, eq_true c98, c107]
                obtain ⟨z111, hz111, hr⟩ := Option.bind_eq_some_iff.1 hr
                obtain rfl := Option.some.inj hz111
                refine ee_seq_draw rfl (by simp [-chunk, -Cell.isSl, -callOp, callOp_eq, hT20, ehy105, hT21, ehy106, c51, c59, c68, c77, c88, eq_true c98, c107]; first | exact ⟨rfl, rfl⟩ | rfl) (by kernel_rfl) ?_
                refine ee_ret ?_
                obtain rfl := Option.some.inj hr
                simp [FinQ, -chunk, -Cell.isSl, -callOp, callOp_eq, hT20, ehy105, hT21, ehy106, c51, c59, c68, c77, c88, eq_true c98, c107]
            · skip
              rw [if_neg] at hr
              rotate_left
              · simp [c51, c59, c68, c77, c88, c98]
              refine ee_condF (by simp [bV, c51, c59, c68, c77, c88, c98]) ?_
              refine ee_seq_reg rfl (by simp [-chunk, -Cell.isSl, -callOp, callOp_eq, c51, c59, c68, c77, c88, c98]; rfl) ?_
              by_cases c112 : y58 = 5
              · skip
                rw [if_pos] at hr
                rotate_left
                · simp [c51, c59, c68, c77, c88, c98, eq_true c112]
                refine ee_condT (by simp [bV, c51, c59, c68, c77, c88, c98, eq_true c112]) ?_
                obtain ⟨_, u113, hr⟩ := Option.bind_eq_some_iff.1 hr
                have u113_0 := chk_some u113
                obtain ⟨x114, hx114, hr⟩ := Option.bind_eq_some_iff.1 hr
                have ghx114 := getE_of hx114
                obtain ⟨_, u115, hr⟩ := Option.bind_eq_some_iff.1 hr
                have u115_0 := chk_some u115
                refine ee_draw rfl (by simp [-chunk, -Cell.isSl, -callOp, callOp_eq, u113_0, hx114, ghx114, u115_0, c51, c59, c68, c77, c88, c98, eq_true c112]; first | exact ⟨rfl, rfl⟩ | rfl) (by kernel_rfl) ?_
                simp only [outOf, thenQ, QL, if_true, ite_true, reduceCtorEq, if_false]
                unfold Llaw34_BuildValid_k1 at hr
                obtain ⟨y116, hy116, hr⟩ := Option.bind_eq_some_iff.1 hr
                have ehy116 := G_Lbuild_Valid_eq hy116
                try simp only [intsR_nil, intsR_cons, intsR_app, intsR_tk, intsR_dr, intsR_st, intsR_rep, List.map_nil, List.map_cons, List.map_append, List.map_take, List.map_drop, List.map_set, List.map_replicate, List.nil_append, List.cons_append, List.append_assoc, eapi_Input, eapi_Output, eapi_Spendable, eS_I_u8, eapi_Coin] at ehy116
                obtain ⟨y117, hy117, hr⟩ := Option.bind_eq_some_iff.1 hr
                have ehy117 := G_Lref34_Valid_eq hy117
                try simp only [intsR_nil, intsR_cons, intsR_app, intsR_tk, intsR_dr, intsR_st, intsR_rep, List.map_nil, List.map_cons, List.map_append, List.map_take, List.map_drop, List.map_set, List.map_replicate, List.nil_append, List.cons_append, List.append_assoc, eapi_Input, eapi_Output, eapi_Spendable, eS_I_u8, eapi_Coin] at ehy117
                by_cases c118 : (y116 == y117) = true
                · skip
                  rw [if_pos] at hr
                  rotate_left
                  · simp [c51, c59, c68, c77, c88, c98, eq_true c112, c118]
                  obtain ⟨z119, hz119, hr⟩ := Option.bind_eq_some_iff.1 hr
                  obtain ⟨y120, hy120, hz119⟩ := Option.bind_eq_some_iff.1 hz119
                  have ehy120 := G_Lbuild_Valid_eq hy120
                  try simp only [intsR_nil, intsR_cons, intsR_app, intsR_tk, intsR_dr, intsR_st, intsR_rep, List.map_nil, List.map_cons, List.map_append, List.map_take, List.map_drop, List.map_set, List.map_replicate, List.nil_append, List.cons_append, List.append_assoc, eapi_Input, eapi_Output, eapi_Spendable, eS_I_u8, eapi_Coin] at ehy120
                  obtain ⟨y121, hy121, hz119⟩ := Option.bind_eq_some_iff.1 hz119
                  have ehy121 := G_Lref34_Valid_eq hy121
                  try simp only [intsR_nil, intsR_cons, intsR_app, intsR_tk, intsR_dr, intsR_st, intsR_rep, List.map_nil, List.map_cons, List.map_append, List.map_take, List.map_drop, List.map_set, List.map_replicate, List.nil_append, List.cons_append, List.append_assoc, eapi_Input, eapi_Output, eapi_Spendable, eS_I_u8, eapi_Coin] at ehy121
                  obtain rfl := Option.some.inj hz119
                  refine ee_seq_draw rfl (by simp [-chunk, -Cell.isSl, -callOp, callOp_eq, hT20, ehy116, hT21, ehy117, ehy120, ehy121, c51, c59, c68, c77, c88, c98, eq_true c112, c118]; first | exact ⟨rfl, rfl⟩ | rfl) (by kernel_rfl) ?_
                  refine ee_ret ?_
                  obtain rfl := Option.some.inj hr
                  simp [FinQ, -chunk, -Cell.isSl, -callOp, callOp_eq, hT20, ehy116, hT21, ehy117, ehy120, ehy121, c51, c59, c68, c77, c88, c98, eq_true c112, c118]
                · skip
                  rw [if_neg] at hr
                  rotate_left
                  · simp [c51, c59, c68, c77, c88, c98, eq_true c112, c118]
                  obtain ⟨z122, hz122, hr⟩ := Option.bind_eq_some_iff.1 hr
                  obtain rfl := Option.some.inj hz122
                  refine ee_seq_draw rfl (by simp [-chunk, -Cell.isSl, -callOp, callOp_eq, hT20, ehy116, hT21, ehy117, c51, c59, c68, c77, c88, c98, eq_true c112, c118]; first | exact ⟨rfl, rfl⟩ | rfl) (by kernel_rfl) ?_
                  refine ee_ret ?_
                  obtain rfl := Option.some.inj hr
                  simp [FinQ, -chunk, -Cell.isSl, -callOp, callOp_eq, hT20, ehy116, hT21, ehy117, c51, c59, c68, c77, c88, c98, eq_true c112, c118]
              · skip
                rw [if_neg] at hr
                rotate_left
                · simp [c51, c59, c68, c77, c88, c98, c112]
                refine ee_condF (by simp [bV, c51, c59, c68, c77, c88, c98, c112]) ?_
                refine ee_seq_reg rfl (by simp [-chunk, -Cell.isSl, -callOp, callOp_eq, c51, c59, c68, c77, c88, c98, c112]; rfl) ?_
                by_cases c123 : y58 = 6
                · skip
                  rw [if_pos] at hr
                  rotate_left
                  · simp [c51, c59, c68, c77, c88, c98, c112, eq_true c123]
                  refine ee_condT (by simp [bV, c51, c59, c68, c77, c88, c98, c112, eq_true c123]) ?_
                  obtain ⟨y124, hy124, hr⟩ := Option.bind_eq_some_iff.1 hr
                  have ehy124 := G_Lmade_Null_eq hy124
                  try simp only [intsR_nil, intsR_cons, intsR_app, intsR_tk, intsR_dr, intsR_st, intsR_rep, List.map_nil, List.map_cons, List.map_append, List.map_take, List.map_drop, List.map_set, List.map_replicate, List.nil_append, List.cons_append, List.append_assoc, eapi_Input, eapi_Output, eapi_Spendable, eS_I_u8, eapi_Coin] at ehy124
                  refine ee_reg rfl (by simp [-chunk, -Cell.isSl, -callOp, callOp_eq, hT19, ehy124, c51, c59, c68, c77, c88, c98, c112, eq_true c123]; rfl) ?_
                  simp only [outOf, thenQ, QL, if_true, ite_true, reduceCtorEq, if_false]
                  unfold Llaw34_BuildValid_k1 at hr
                  obtain ⟨y125, hy125, hr⟩ := Option.bind_eq_some_iff.1 hr
                  have ehy125 := G_Lbuild_Valid_eq hy125
                  try simp only [intsR_nil, intsR_cons, intsR_app, intsR_tk, intsR_dr, intsR_st, intsR_rep, List.map_nil, List.map_cons, List.map_append, List.map_take, List.map_drop, List.map_set, List.map_replicate, List.nil_append, List.cons_append, List.append_assoc, eapi_Input, eapi_Output, eapi_Spendable, eS_I_u8, eapi_Coin] at ehy125
                  obtain ⟨y126, hy126, hr⟩ := Option.bind_eq_some_iff.1 hr
                  have ehy126 := G_Lref34_Valid_eq hy126
                  try simp only [intsR_nil, intsR_cons, intsR_app, intsR_tk, intsR_dr, intsR_st, intsR_rep, List.map_nil, List.map_cons, List.map_append, List.map_take, List.map_drop, List.map_set, List.map_replicate, List.nil_append, List.cons_append, List.append_assoc, eapi_Input, eapi_Output, eapi_Spendable, eS_I_u8, eapi_Coin] at ehy126
                  by_cases c127 : (y125 == y126) = true
                  · skip
                    rw [if_pos] at hr
                    rotate_left
                    · simp [c51, c59, c68, c77, c88, c98, c112, eq_true c123, c127]
                    obtain ⟨z128, hz128, hr⟩ := Option.bind_eq_some_iff.1 hr
                    obtain ⟨y129, hy129, hz128⟩ := Option.bind_eq_some_iff.1 hz128
                    have ehy129 := G_Lbuild_Valid_eq hy129
                    try simp only [intsR_nil, intsR_cons, intsR_app, intsR_tk, intsR_dr, intsR_st, intsR_rep, List.map_nil, List.map_cons, List.map_append, List.map_take, List.map_drop, List.map_set, List.map_replicate, List.nil_append, List.cons_append, List.append_assoc, eapi_Input, eapi_Output, eapi_Spendable, eS_I_u8, eapi_Coin] at ehy129
                    obtain ⟨y130, hy130, hz128⟩ := Option.bind_eq_some_iff.1 hz128
                    have ehy130 := G_Lref34_Valid_eq hy130
                    try simp only [intsR_nil, intsR_cons, intsR_app, intsR_tk, intsR_dr, intsR_st, intsR_rep, List.map_nil, List.map_cons, List.map_append, List.map_take, List.map_drop, List.map_set, List.map_replicate, List.nil_append, List.cons_append, List.append_assoc, eapi_Input, eapi_Output, eapi_Spendable, eS_I_u8, eapi_Coin] at ehy130
                    obtain rfl := Option.some.inj hz128
                    refine ee_seq_draw rfl (by simp [-chunk, -Cell.isSl, -callOp, callOp_eq, hT20, ehy125, hT21, ehy126, ehy129, ehy130, c51, c59, c68, c77, c88, c98, c112, eq_true c123, c127]; first | exact ⟨rfl, rfl⟩ | rfl) (by kernel_rfl) ?_
                    refine ee_ret ?_
                    obtain rfl := Option.some.inj hr
                    simp [FinQ, -chunk, -Cell.isSl, -callOp, callOp_eq, hT20, ehy125, hT21, ehy126, ehy129, ehy130, c51, c59, c68, c77, c88, c98, c112, eq_true c123, c127]
                  · skip
                    rw [if_neg] at hr
                    rotate_left
                    · simp [c51, c59, c68, c77, c88, c98, c112, eq_true c123, c127]
                    obtain ⟨z131, hz131, hr⟩ := Option.bind_eq_some_iff.1 hr
                    obtain rfl := Option.some.inj hz131
                    refine ee_seq_draw rfl (by simp [-chunk, -Cell.isSl, -callOp, callOp_eq, hT20, ehy125, hT21, ehy126, c51, c59, c68, c77, c88, c98, c112, eq_true c123, c127]; first | exact ⟨rfl, rfl⟩ | rfl) (by kernel_rfl) ?_
                    refine ee_ret ?_
                    obtain rfl := Option.some.inj hr
                    simp [FinQ, -chunk, -Cell.isSl, -callOp, callOp_eq, hT20, ehy125, hT21, ehy126, c51, c59, c68, c77, c88, c98, c112, eq_true c123, c127]
                · skip
                  rw [if_neg] at hr
                  rotate_left
                  · simp [c51, c59, c68, c77, c88, c98, c112, c123]
                  refine ee_condF (by simp [bV, c51, c59, c68, c77, c88, c98, c112, c123]) ?_
                  refine ee_skip ?_
                  simp only [outOf, thenQ, QL, if_true, ite_true, reduceCtorEq, if_false]
                  unfold Llaw34_BuildValid_k1 at hr
                  obtain ⟨y132, hy132, hr⟩ := Option.bind_eq_some_iff.1 hr
                  have ehy132 := G_Lbuild_Valid_eq hy132
                  try simp only [intsR_nil, intsR_cons, intsR_app, intsR_tk, intsR_dr, intsR_st, intsR_rep, List.map_nil, List.map_cons, List.map_append, List.map_take, List.map_drop, List.map_set, List.map_replicate, List.nil_append, List.cons_append, List.append_assoc, eapi_Input, eapi_Output, eapi_Spendable, eS_I_u8, eapi_Coin] at ehy132
                  obtain ⟨y133, hy133, hr⟩ := Option.bind_eq_some_iff.1 hr
                  have ehy133 := G_Lref34_Valid_eq hy133
                  try simp only [intsR_nil, intsR_cons, intsR_app, intsR_tk, intsR_dr, intsR_st, intsR_rep, List.map_nil, List.map_cons, List.map_append, List.map_take, List.map_drop, List.map_set, List.map_replicate, List.nil_append, List.cons_append, List.append_assoc, eapi_Input, eapi_Output, eapi_Spendable, eS_I_u8, eapi_Coin] at ehy133
                  by_cases c134 : (y132 == y133) = true
                  · skip
                    rw [if_pos] at hr
                    rotate_left
                    · simp [c51, c59, c68, c77, c88, c98, c112, c123, c134]
                    obtain ⟨z135, hz135, hr⟩ := Option.bind_eq_some_iff.1 hr
                    obtain ⟨y136, hy136, hz135⟩ := Option.bind_eq_some_iff.1 hz135
                    have ehy136 := G_Lbuild_Valid_eq hy136
                    try simp only [intsR_nil, intsR_cons, intsR_app, intsR_tk, intsR_dr, intsR_st, intsR_rep, List.map_nil, List.map_cons, List.map_append, List.map_take, List.map_drop, List.map_set, List.map_replicate, List.nil_append, List.cons_append, List.append_assoc, eapi_Input, eapi_Output, eapi_Spendable, eS_I_u8, eapi_Coin] at ehy136
                    obtain ⟨y137, hy137, hz135⟩ := Option.bind_eq_some_iff.1 hz135
                    obtain rfl := Option.some.inj (hy132.symm.trans hy136)
                    obtain rfl := Option.some.inj (hy133.symm.trans hy137)
                    have ehy137 := G_Lref34_Valid_eq hy137
                    try simp only [intsR_nil, intsR_cons, intsR_app, intsR_tk, intsR_dr, intsR_st, intsR_rep, List.map_nil, List.map_cons, List.map_append, List.map_take, List.map_drop, List.map_set, List.map_replicate, List.nil_append, List.cons_append, List.append_assoc, eapi_Input, eapi_Output, eapi_Spendable, eS_I_u8, eapi_Coin] at ehy137
                    obtain rfl := Option.some.inj hz135
                    refine ee_seq_draw rfl (by simp [-chunk, -Cell.isSl, -callOp, callOp_eq, hT20, ehy132, hT21, ehy133, ehy136, ehy137, c51, c59, c68, c77, c88, c98, c112, c123, c134]; first | exact ⟨rfl, rfl⟩ | rfl) (by kernel_rfl) ?_
                    refine ee_ret ?_
                    obtain rfl := Option.some.inj hr
                    simp [FinQ, -chunk, -Cell.isSl, -callOp, callOp_eq, hT20, ehy132, hT21, ehy133, ehy136, ehy137, c51, c59, c68, c77, c88, c98, c112, c123, c134]
                  · skip
                    rw [if_neg] at hr
                    rotate_left
                    · simp [c51, c59, c68, c77, c88, c98, c112, c123, c134]
                    obtain ⟨z138, hz138, hr⟩ := Option.bind_eq_some_iff.1 hr
                    obtain rfl := Option.some.inj hz138
                    refine ee_seq_draw rfl (by simp [-chunk, -Cell.isSl, -callOp, callOp_eq, hT20, ehy132, hT21, ehy133, c51, c59, c68, c77, c88, c98, c112, c123, c134]; first | exact ⟨rfl, rfl⟩ | rfl) (by kernel_rfl) ?_
                    refine ee_ret ?_
                    obtain rfl := Option.some.inj hr
                    simp [FinQ, -chunk, -Cell.isSl, -callOp, callOp_eq, hT20, ehy132, hT21, ehy133, c51, c59, c68, c77, c88, c98, c112, c123, c134]
  · skip
    rw [if_pos] at hr
    rotate_left
    · simp [c51]
    refine ee_seq_condT (by simp [bV, c51]) ?_
    refine ee_assoc ?_
    refine ee_seq_reg rfl (by simp [-chunk, -Cell.isSl, -callOp, callOp_eq, c51]; rfl) ?_
    refine ee_seq_ret ?_
    obtain rfl := Option.some.inj hr
    simp [FinQ, -chunk, -Cell.isSl, -callOp, callOp_eq, c51]
end Go.Proofs.Ytanhccemhpmnhaa
