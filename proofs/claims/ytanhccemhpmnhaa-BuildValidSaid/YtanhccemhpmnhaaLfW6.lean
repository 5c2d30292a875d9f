import Derived.Test.YtanhccemhpmnhaaLfK
import Derived.Test.YtanhccemhpmnhaaCode
namespace Go.Proofs.Ytanhccemhpmnhaa
open Go.RowKit
open Go.Av
open Go.Lc
set_option maxRecDepth 100000
set_option linter.unusedSimpArgs false
set_option linter.unusedVariables false
variable {G : Glob}
def kp16 : Keep := fun i => if i = 3 then ⟨[1, 5, 6], [], []⟩ else ⟨[], [], []⟩
theorem w16 {T : Tab} (hT33 : T 33 = some G_Lref09_Weight) (hT34 : T 34 = some G_Lref34_bare) (a0 : Tapi_Tx) (a1 : (List Tapi_Spendable)) (x : Int) (hr : Lref34_Weight a0 a1 = some x) : ∃ kp fl n, execFn tt T G kp fl n Try.f16 [.agg ([.v (.int .u32 a0.1), .slice .no (List.map eapi_Input a0.2.1), .slice .no (List.map eapi_Output a0.2.2.1), .v (.int .u32 a0.2.2.2)]), .one (.slice .no (List.map eapi_Spendable a1))] = some (.one (.v (.int .i64 x)), []) := by
  refine fnE (kp := kp16) (w := false) body16 ?_
  unfold c16
  rw [Try.ntmps16]
  unfold Lref34_Weight at hr
  refine ee_seq_reg rfl (by simp [-chunk, -Cell.isSl, -callOp, callOp_eq, ]; rfl) ?_
  obtain ⟨y11, hy11, hr⟩ := Option.bind_eq_some_iff.1 hr
  have ehy11 := G_Lref34_bare_eq hy11
  try simp only [intsR_nil, intsR_cons, intsR_app, intsR_tk, intsR_dr, intsR_st, intsR_rep, List.map_nil, List.map_cons, List.map_append, List.map_take, List.map_drop, List.map_set, List.map_replicate, List.nil_append, List.cons_append, List.append_assoc, eapi_Input, eapi_Output, eapi_Spendable, eS_I_u8] at ehy11
  obtain ⟨y12, hy12, hr⟩ := Option.bind_eq_some_iff.1 hr
  have ehy12 := G_Lref09_Weight_eq hy12
  try simp only [intsR_nil, intsR_cons, intsR_app, intsR_tk, intsR_dr, intsR_st, intsR_rep, List.map_nil, List.map_cons, List.map_append, List.map_take, List.map_drop, List.map_set, List.map_replicate, List.nil_append, List.cons_append, List.append_assoc, eapi_Input, eapi_Output, eapi_Spendable, eS_I_u8] at ehy12
  refine ee_seq_reg rfl (by simp [-chunk, -Cell.isSl, -callOp, callOp_eq, hT34, ehy11, hT33, ehy12]; rfl) ?_
  refine ee_assoc ?_
  refine ee_seq_reg rfl (by simp [-chunk, -Cell.isSl, -callOp, callOp_eq, ]; rfl) ?_
  refine ee_seq_block ?_
  refine ee_loop (kq := ⟨[1, 5, 6], [], []⟩) (H := fun (s : Int × Int) => match s with | (p7, p8) => (⟨(und 1 ++ ([.one (.slice .no (List.map eapi_Spendable a1))] ++ (und 3 ++ ([.one (.v (.int .i64 p7)), .one (.v (.int .i64 p8))] ++ (und 17)))) : List PV), ([] : Boxes)⟩ : ASt)) (by kernel_rfl) hr (by simp [und, List.replicate, ]) ?_
  rintro ⟨p7, p8⟩ x13r hr13
  simp only [Lref34_Weight_s1] at hr13
  unfold b16_1
  simp only [und, List.replicate, List.cons_append, List.nil_append]
  refine ee_assoc ?_
  refine ee_seq_reg rfl (by simp [-chunk, -Cell.isSl, -callOp, callOp_eq, ]; rfl) ?_
  by_cases c14 : p8 < (a1.length : Int)
  · skip
    have c14N := c14
    try simp at c14N
    rw [if_pos] at hr13
    rotate_left
    · simp [c14, c14N]
    refine ee_seq_condT (by simp [bV, c14, c14N]) ?_
    refine ee_seq_skip ?_
    refine ee_seq_block ?_
    obtain ⟨x15, hx15, hr13⟩ := Option.bind_eq_some_iff.1 hr13
    obtain ⟨hx15a, hx15b⟩ := idx_some hx15
    have hx15c := getE_of hx15b
    refine ee_reg rfl (by simp [-chunk, -Cell.isSl, -callOp, callOp_eq, hx15a, hx15b, hx15c, c14, c14N]; rfl) ?_
    simp only [outOf, thenQ, QL, if_true, ite_true, reduceCtorEq, if_false]
    refine ee_reg rfl (by simp [-chunk, -Cell.isSl, -callOp, callOp_eq, c14, c14N]; rfl) ?_
    obtain rfl := Option.some.inj hr13
    simp only [outOf, thenQ, QL, if_true, ite_true, reduceCtorEq, if_false]
    simp [und, List.replicate, Nat.add_assoc, c14, c14N]
  · skip
    have c14N := c14
    try simp at c14N
    rw [if_neg] at hr13
    rotate_left
    · simp [c14, c14N]
    refine ee_seq_condF (by simp [bV, c14, c14N]) ?_
    refine ee_seq_exit ?_
    obtain ⟨r16, q16, rfl⟩ := Option.map_eq_some_iff.1 hr13
    simp only [outOf, thenQ, QL, if_true, ite_true, reduceCtorEq, if_false]
    rintro rfl
    try simp only [outOf, thenQ, QL, if_true, ite_true, reduceCtorEq, if_false]
    unfold Lref34_Weight_k1 at q16
    refine ee_seq_reg rfl (by simp [-chunk, -Cell.isSl, -callOp, callOp_eq, c14, c14N]; rfl) ?_
    refine ee_ret ?_
    obtain rfl := Option.some.inj q16
    simp [FinQ, -chunk, -Cell.isSl, -callOp, callOp_eq, c14, c14N]
def kp3 : Keep := fun i => if i = 7 then ⟨[7, 10, 11, 41, 42, 43], [7, 10, 19, 21, 41, 100019], []⟩ else ⟨[], [], []⟩
theorem w3 {T : Tab} (hT6 : T 6 = some G_Llaw34_sane) (hT7 : T 7 = some G_Lmill_New) (hT8 : T 8 = some G_Lmill_Tx) (hT9 : T 9 = some G_Lmill_Spendables) (hT10 : T 10 = some G_Lmill_Mod) (hT11 : T 11 = some G_Lbuild_Fee) (hT12 : T 12 = some G_Lref34_Fee) (hT13 : T 13 = some G_Lbuild_InputWeight) (hT14 : T 14 = some G_Lref34_InputWeight) (hT15 : T 15 = some G_Lbuild_Weight) (hT16 : T 16 = some G_Lref34_Weight) (a0 : Int) (a1 : Int) (a2 : (List Int)) (a3 : Tapi_Spendable) (x : Bool) (hr : Llaw34_BuildWeights a0 a1 a2 a3 = some x) : ∃ kp fl n, execFn tt T G kp fl n Try.f3 [.one (.v (.int .i64 a0)), .one (.v (.int .i64 a1)), .one (.slice .no (intsR .i64 a2)), .agg ((arC .u8 a3.1.1.1) ++ ((.v (.int .u32 a3.1.1.2)) :: ((.v (.int .i64 a3.1.2.1.1)) :: ((.slice .no (intsR .u8 a3.1.2.1.2)) :: ((.v (.int .i64 a3.1.2.2.1)) :: ((.v (.bool a3.1.2.2.2)) :: ((.v (.int .i64 a3.2)) :: [])))))))] = some (.one (.v (.bool x)), []) := by
  refine fnE (kp := kp3) (w := false) body3 ?_
  unfold c3
  rw [Try.ntmps3]
  unfold Llaw34_BuildWeights at hr
  refine ee_seq_reg rfl (by simp [-chunk, -Cell.isSl, -callOp, callOp_eq, ]; rfl) ?_
  refine ee_assoc ?_
  obtain ⟨y31, hy31, hr⟩ := Option.bind_eq_some_iff.1 hr
  have ehy31 := G_Llaw34_sane_eq hy31
  try simp only [intsR_nil, intsR_cons, intsR_app, intsR_tk, intsR_dr, intsR_st, intsR_rep, List.map_nil, List.map_cons, List.map_append, List.map_take, List.map_drop, List.map_set, List.map_replicate, List.nil_append, List.cons_append, List.append_assoc, eapi_Input, eapi_Output, eapi_Spendable, eS_I_u8] at ehy31
  refine ee_seq_reg rfl (by simp [-chunk, -Cell.isSl, -callOp, callOp_eq, hT6, ehy31]; rfl) ?_
  by_cases c32 : y31 = true
  · skip
    rw [if_neg] at hr
    rotate_left
    · simp [c32]
    refine ee_seq_condF (by simp [bV, c32]) ?_
    refine ee_seq_skip ?_
    obtain ⟨y33, hy33, hr⟩ := Option.bind_eq_some_iff.1 hr
    have ehy33 := G_Lmill_New_eq hy33
    try simp only [intsR_nil, intsR_cons, intsR_app, intsR_tk, intsR_dr, intsR_st, intsR_rep, List.map_nil, List.map_cons, List.map_append, List.map_take, List.map_drop, List.map_set, List.map_replicate, List.nil_append, List.cons_append, List.append_assoc, eapi_Input, eapi_Output, eapi_Spendable, eS_I_u8] at ehy33
    refine ee_seq_reg rfl (by simp [-chunk, -Cell.isSl, -callOp, callOp_eq, hT7, ehy33, c32]; rfl) ?_
    obtain ⟨y34, hy34, hr⟩ := Option.bind_eq_some_iff.1 hr
    have ehy34 := G_Lmill_Tx_eq hy34
    try simp only [intsR_nil, intsR_cons, intsR_app, intsR_tk, intsR_dr, intsR_st, intsR_rep, List.map_nil, List.map_cons, List.map_append, List.map_take, List.map_drop, List.map_set, List.map_replicate, List.nil_append, List.cons_append, List.append_assoc, eapi_Input, eapi_Output, eapi_Spendable, eS_I_u8] at ehy34
    obtain ⟨y35, hy35, hr⟩ := Option.bind_eq_some_iff.1 hr
    have ehy35 := G_Lmill_Spendables_eq hy35
    try simp only [intsR_nil, intsR_cons, intsR_app, intsR_tk, intsR_dr, intsR_st, intsR_rep, List.map_nil, List.map_cons, List.map_append, List.map_take, List.map_drop, List.map_set, List.map_replicate, List.nil_append, List.cons_append, List.append_assoc, eapi_Input, eapi_Output, eapi_Spendable, eS_I_u8] at ehy35
    refine ee_seq_reg rfl (by simp [-chunk, -Cell.isSl, -callOp, callOp_eq, hT8, ehy34, hT9, ehy35, c32]; rfl) ?_
    obtain ⟨y36, hy36, hr⟩ := Option.bind_eq_some_iff.1 hr
    have ehy36 := G_Lmill_Mod_eq hy36
    try simp only [intsR_nil, intsR_cons, intsR_app, intsR_tk, intsR_dr, intsR_st, intsR_rep, List.map_nil, List.map_cons, List.map_append, List.map_take, List.map_drop, List.map_set, List.map_replicate, List.nil_append, List.cons_append, List.append_assoc, eapi_Input, eapi_Output, eapi_Spendable, eS_I_u8] at ehy36
    refine ee_seq_reg rfl (by simp [-chunk, -Cell.isSl, -callOp, callOp_eq, hT10, ehy36, c32]; rfl) ?_
    refine ee_assoc ?_
    obtain ⟨y37, hy37, hr⟩ := Option.bind_eq_some_iff.1 hr
    have ehy37 := G_Lmill_Mod_eq hy37
    try simp only [intsR_nil, intsR_cons, intsR_app, intsR_tk, intsR_dr, intsR_st, intsR_rep, List.map_nil, List.map_cons, List.map_append, List.map_take, List.map_drop, List.map_set, List.map_replicate, List.nil_append, List.cons_append, List.append_assoc, eapi_Input, eapi_Output, eapi_Spendable, eS_I_u8] at ehy37
    obtain ⟨y38, hy38, hr⟩ := Option.bind_eq_some_iff.1 hr
    have ehy38 := G_Lmill_Mod_eq hy38
    try simp only [intsR_nil, intsR_cons, intsR_app, intsR_tk, intsR_dr, intsR_st, intsR_rep, List.map_nil, List.map_cons, List.map_append, List.map_take, List.map_drop, List.map_set, List.map_replicate, List.nil_append, List.cons_append, List.append_assoc, eapi_Input, eapi_Output, eapi_Spendable, eS_I_u8] at ehy38
    obtain ⟨y39, hy39, hr⟩ := Option.bind_eq_some_iff.1 hr
    have ehy39 := G_Lmill_Mod_eq hy39
    try simp only [intsR_nil, intsR_cons, intsR_app, intsR_tk, intsR_dr, intsR_st, intsR_rep, List.map_nil, List.map_cons, List.map_append, List.map_take, List.map_drop, List.map_set, List.map_replicate, List.nil_append, List.cons_append, List.append_assoc, eapi_Input, eapi_Output, eapi_Spendable, eS_I_u8] at ehy39
    obtain ⟨y40, hy40, hr⟩ := Option.bind_eq_some_iff.1 hr
    have ehy40 := G_Lmill_Mod_eq hy40
    try simp only [intsR_nil, intsR_cons, intsR_app, intsR_tk, intsR_dr, intsR_st, intsR_rep, List.map_nil, List.map_cons, List.map_append, List.map_take, List.map_drop, List.map_set, List.map_replicate, List.nil_append, List.cons_append, List.append_assoc, eapi_Input, eapi_Output, eapi_Spendable, eS_I_u8] at ehy40
    refine ee_seq_reg rfl (by simp [-chunk, -Cell.isSl, -callOp, callOp_eq, hT10, ehy37, ehy38, ehy39, ehy40, List.range, List.range.loop, c32]; rfl) ?_
    refine ee_seq_block ?_
    refine ee_loop (kq := ⟨[7, 10, 11, 41, 42, 43], [7, 10, 19, 21, 41, 100019], []⟩) (H := fun (s : Int) => match s with | p17 => (⟨(und 7 ++ ([.ptr 7 0 0 0 38] ++ (und 2 ++ ([.ptr 10 0 0 0 4, .one (.ms 21 0 0 (y35.1.length) 38)] ++ (und 29 ++ ([.one (.ms 41 0 0 (3) 2), .one (.v (.int .i64 (3 : Int))), .one (.v (.int .i64 p17))] ++ (und 29)))))) : List PV), ([(7, ⟨0, 38, [(arC .u8 a3.1.1.1) ++ ((.v (.int .u32 a3.1.1.2)) :: ((.v (.int .i64 a3.1.2.1.1)) :: ((.slice .no (intsR .u8 a3.1.2.1.2)) :: ((.v (.int .i64 a3.1.2.2.1)) :: ((.v (.bool a3.1.2.2.2)) :: ((.v (.int .i64 y36)) :: []))))))], false, false⟩), (10, ⟨0, 4, [[.v (.int .u32 y34.1.1), .ms 19 0 0 (y34.1.2.1.length) 35, .ms 100019 0 0 (y34.1.2.2.1.length) 2, .v (.int .u32 y34.1.2.2.2)]], false, false⟩), (19, ⟨0, 35, List.map eapi_Input y34.1.2.1, false, true⟩), (21, ⟨0, 38, List.map eapi_Spendable y35.1, false, true⟩), (41, ⟨0, 2, List.map (arC .i64) [(⟨[a0, a1], rfl⟩ : Arr 2), (⟨[y37, y38], rfl⟩ : Arr 2), (⟨[IntKind.i64.wrap (80000 + y39), IntKind.i64.wrap (1048576 + y40)], rfl⟩ : Arr 2)], false, true⟩), (100019, ⟨0, 2, List.map eapi_Output y34.1.2.2.1, false, true⟩)] : Boxes)⟩ : ASt)) (by kernel_rfl) hr (by simp [und, List.replicate, c32]) ?_
    rintro p17 x41r hr41
    simp only [Llaw34_BuildWeights_s1] at hr41
    unfold b3_1
    simp only [und, List.replicate, List.cons_append, List.nil_append]
    refine ee_seq_reg rfl (by simp [-chunk, -Cell.isSl, -callOp, callOp_eq, c32]; rfl) ?_
    by_cases c42 : p17 < (3 : Int)
    · skip
      rw [if_pos] at hr41
      rotate_left
      · simp [c32, c42]
      refine ee_seq_condT (by simp [bV, c32, c42]) ?_
      refine ee_seq_skip ?_
      refine ee_seq_block ?_
      obtain ⟨j43, hj43, hr41⟩ := Option.bind_eq_some_iff.1 hr41
      obtain ⟨j43a, j43b, j43c⟩ := inA_some hj43
      obtain ⟨x44, hx44, hr41⟩ := Option.bind_eq_some_iff.1 hr41
      have ghx44 := getE_of hx44
      have mhx44 : (List.map (arC .i64) ([(⟨[a0, a1], rfl⟩ : Arr 2), (⟨[y37, y38], rfl⟩ : Arr 2), (⟨[IntKind.i64.wrap (80000 + y39), IntKind.i64.wrap (1048576 + y40)], rfl⟩ : Arr 2)]))[j43]? = some ((arC .i64) x44) := by rw [List.getElem?_map, hx44]; rfl
      simp only [List.map_cons, List.map_nil, arC_lit, ints_cons, ints_nil] at mhx44
      have mghx44 := getE_of mhx44
      refine ee_seq_reg rfl (by simp [-chunk, -Cell.isSl, -callOp, callOp_eq, j43a, j43b, j43c, hx44, ghx44, mhx44, mghx44, c32, c42]; rfl) ?_
      have ar45 := arC_get (k := .i64) (x44) (i := 0) (by decide)
      have as46 := arC_sub (k := .i64) (x44) (i := 0) (by decide)
      have ar47 := arC_get (k := .i64) (x44) (i := 1) (by decide)
      have as48 := arC_sub (k := .i64) (x44) (i := 1) (by decide)
      obtain ⟨y49, hy49, hr41⟩ := Option.bind_eq_some_iff.1 hr41
      have ehy49 := G_Lbuild_Fee_eq hy49
      try simp only [intsR_nil, intsR_cons, intsR_app, intsR_tk, intsR_dr, intsR_st, intsR_rep, List.map_nil, List.map_cons, List.map_append, List.map_take, List.map_drop, List.map_set, List.map_replicate, List.nil_append, List.cons_append, List.append_assoc, eapi_Input, eapi_Output, eapi_Spendable, eS_I_u8] at ehy49
      have ar50 := arC_get (k := .i64) (x44) (i := 0) (by decide)
      have as51 := arC_sub (k := .i64) (x44) (i := 0) (by decide)
      have ar52 := arC_get (k := .i64) (x44) (i := 1) (by decide)
      have as53 := arC_sub (k := .i64) (x44) (i := 1) (by decide)
      obtain ⟨y54, hy54, hr41⟩ := Option.bind_eq_some_iff.1 hr41
      have ehy54 := G_Lref34_Fee_eq hy54
      try simp only [intsR_nil, intsR_cons, intsR_app, intsR_tk, intsR_dr, intsR_st, intsR_rep, List.map_nil, List.map_cons, List.map_append, List.map_take, List.map_drop, List.map_set, List.map_replicate, List.nil_append, List.cons_append, List.append_assoc, eapi_Input, eapi_Output, eapi_Spendable, eS_I_u8] at ehy54
      refine ee_seq_draw rfl (by simp [-chunk, -Cell.isSl, -callOp, callOp_eq, ar45, as46, ar47, as48, hT11, ehy49, ar50, as51, ar52, as53, hT12, ehy54, c32, c42]; first | exact ⟨rfl, rfl⟩ | rfl) (by kernel_rfl) ?_
      by_cases c55 : y49 = y54
      · skip
        rw [if_neg] at hr41
        rotate_left
        · simp [c32, c42, eq_true c55]
        refine ee_condF (by simp [bV, c32, c42, eq_true c55]) ?_
        refine ee_skip ?_
        simp only [outOf, thenQ, QL, if_true, ite_true, reduceCtorEq, if_false]
        refine ee_reg rfl (by simp [-chunk, -Cell.isSl, -callOp, callOp_eq, c32, c42, eq_true c55]; rfl) ?_
        obtain rfl := Option.some.inj hr41
        simp only [outOf, thenQ, QL, if_true, ite_true, reduceCtorEq, if_false]
        simp [und, List.replicate, Nat.add_assoc, c32, c42, eq_true c55]
      · skip
        rw [if_pos] at hr41
        rotate_left
        · simp [c32, c42, c55]
        refine ee_condT (by simp [bV, c32, c42, c55]) ?_
        refine ee_seq_reg rfl (by simp [-chunk, -Cell.isSl, -callOp, callOp_eq, c32, c42, c55]; rfl) ?_
        refine ee_ret ?_
        obtain rfl := Option.some.inj hr41
        simp only [outOf, thenQ, QL, if_true, ite_true, reduceCtorEq, if_false]
        rintro rfl
        simp [FinQ, -chunk, -Cell.isSl, -callOp, callOp_eq, c32, c42, c55]
    · skip
      rw [if_neg] at hr41
      rotate_left
      · simp [c32, c42]
      refine ee_seq_condF (by simp [bV, c32, c42]) ?_
      refine ee_seq_exit ?_
      obtain ⟨r56, q56, rfl⟩ := Option.map_eq_some_iff.1 hr41
      simp only [outOf, thenQ, QL, if_true, ite_true, reduceCtorEq, if_false]
      rintro rfl
      try simp only [outOf, thenQ, QL, if_true, ite_true, reduceCtorEq, if_false]
      unfold Llaw34_BuildWeights_k1 at q56
      obtain ⟨y57, hy57, q56⟩ := Option.bind_eq_some_iff.1 q56
      have ehy57 := G_Lbuild_InputWeight_eq hy57
      try simp only [intsR_nil, intsR_cons, intsR_app, intsR_tk, intsR_dr, intsR_st, intsR_rep, List.map_nil, List.map_cons, List.map_append, List.map_take, List.map_drop, List.map_set, List.map_replicate, List.nil_append, List.cons_append, List.append_assoc, eapi_Input, eapi_Output, eapi_Spendable, eS_I_u8] at ehy57
      obtain ⟨y58, hy58, q56⟩ := Option.bind_eq_some_iff.1 q56
      have ehy58 := G_Lref34_InputWeight_eq hy58
      try simp only [intsR_nil, intsR_cons, intsR_app, intsR_tk, intsR_dr, intsR_st, intsR_rep, List.map_nil, List.map_cons, List.map_append, List.map_take, List.map_drop, List.map_set, List.map_replicate, List.nil_append, List.cons_append, List.append_assoc, eapi_Input, eapi_Output, eapi_Spendable, eS_I_u8] at ehy58
      by_cases c59 : y57 = y58
      · skip
        rw [if_pos] at q56
        rotate_left
        · simp [c32, c42, eq_true c59]
        obtain ⟨z60, hz60, q56⟩ := Option.bind_eq_some_iff.1 q56
        obtain ⟨y61, hy61, hz60⟩ := Option.bind_eq_some_iff.1 hz60
        have ehy61 := G_Lbuild_Weight_eq hy61
        try simp only [intsR_nil, intsR_cons, intsR_app, intsR_tk, intsR_dr, intsR_st, intsR_rep, List.map_nil, List.map_cons, List.map_append, List.map_take, List.map_drop, List.map_set, List.map_replicate, List.nil_append, List.cons_append, List.append_assoc, eapi_Input, eapi_Output, eapi_Spendable, eS_I_u8] at ehy61
        obtain ⟨y62, hy62, hz60⟩ := Option.bind_eq_some_iff.1 hz60
        have ehy62 := G_Lref34_Weight_eq hy62
        try simp only [intsR_nil, intsR_cons, intsR_app, intsR_tk, intsR_dr, intsR_st, intsR_rep, List.map_nil, List.map_cons, List.map_append, List.map_take, List.map_drop, List.map_set, List.map_replicate, List.nil_append, List.cons_append, List.append_assoc, eapi_Input, eapi_Output, eapi_Spendable, eS_I_u8] at ehy62
        obtain rfl := Option.some.inj hz60
        refine ee_seq_draw rfl (by simp [-chunk, -Cell.isSl, -callOp, callOp_eq, hT13, ehy57, hT14, ehy58, hT15, ehy61, hT16, ehy62, c32, c42, eq_true c59]; first | exact ⟨rfl, rfl⟩ | rfl) (by kernel_rfl) ?_
        refine ee_ret ?_
        obtain rfl := Option.some.inj q56
        simp [FinQ, -chunk, -Cell.isSl, -callOp, callOp_eq, hT13, ehy57, hT14, ehy58, hT15, ehy61, hT16, ehy62, c32, c42, eq_true c59]
      · skip
        rw [if_neg] at q56
        rotate_left
        · simp [c32, c42, c59]
        obtain ⟨z63, hz63, q56⟩ := Option.bind_eq_some_iff.1 q56
        obtain rfl := Option.some.inj hz63
        refine ee_seq_draw rfl (by simp [-chunk, -Cell.isSl, -callOp, callOp_eq, hT13, ehy57, hT14, ehy58, c32, c42, c59]; first | exact ⟨rfl, rfl⟩ | rfl) (by kernel_rfl) ?_
        refine ee_ret ?_
        obtain rfl := Option.some.inj q56
        simp [FinQ, -chunk, -Cell.isSl, -callOp, callOp_eq, hT13, ehy57, hT14, ehy58, c32, c42, c59]
  · skip
    rw [if_pos] at hr
    rotate_left
    · simp [c32]
    refine ee_seq_condT (by simp [bV, c32]) ?_
    refine ee_assoc ?_
    refine ee_seq_reg rfl (by simp [-chunk, -Cell.isSl, -callOp, callOp_eq, c32]; rfl) ?_
    refine ee_seq_ret ?_
    obtain rfl := Option.some.inj hr
    simp [FinQ, -chunk, -Cell.isSl, -callOp, callOp_eq, c32]
def kp17 : Keep := fun i => if i = 5 then ⟨[0, 4, 5, 6, 15, 16, 17], [4, 5, 35, 49, 1000000], [(5, some 1, 49, 35), (5, some 4, 35, 37)]⟩ else ⟨[], [], []⟩
theorem w17 {T : Tab} (hT18 : T 18 = some G_Lmade_Script) (hT27 : T 27 = some G_Lmill_Deck_Next) (a0 : Tlightclientmill_Deck) (a1 : (List (List Int))) (x : Tapi_Plan × Tlightclientmill_Deck) (hr : Lmill_Plan a0 a1 = some x) : ∃ kp fl n, execFn tt T G kp fl n Try.f17 [.io ([.slice .no (intsR .i64 a0.1), .v (.int .i64 a0.2)]), .one (.slice .no (List.map eS_I_u8 a1))] = some (.agg ([.v (.int .u32 x.1.1.1), .own 35 (List.map eapi_Input x.1.1.2.1), .own 2 (List.map eapi_Output x.1.1.2.2.1), .v (.int .u32 x.1.1.2.2.2), .own 37 (List.map eapi_Coin x.1.2.1), .v (.int .i64 x.1.2.2.1), .v (.int .i64 x.1.2.2.2)]), [[.slice .no (intsR .i64 x.2.1), .v (.int .i64 x.2.2)]]) := by
  refine fnE (kp := kp17) (w := true) body17 ?_
  unfold c17
  rw [Try.ntmps17]
  unfold Lmill_Plan at hr
  refine ee_seq_reg rfl (by simp [-chunk, -Cell.isSl, -callOp, callOp_eq, ]; rfl) ?_
  refine ee_seq_reg rfl (by simp [-chunk, -Cell.isSl, -callOp, callOp_eq, ]; rfl) ?_
  obtain ⟨y44, hy44, hr⟩ := Option.bind_eq_some_iff.1 hr
  have ehy44 := G_Lmill_Deck_Next_eq hy44
  try simp only [intsR_nil, intsR_cons, intsR_app, intsR_tk, intsR_dr, intsR_st, intsR_rep, List.map_nil, List.map_cons, List.map_append, List.map_take, List.map_drop, List.map_set, List.map_replicate, List.nil_append, List.cons_append, List.append_assoc, eapi_Input, eapi_Output, eapi_Spendable, eS_I_u8] at ehy44
  refine ee_seq_reg rfl (by simp [-chunk, -Cell.isSl, -callOp, callOp_eq, hT27, ehy44]; rfl) ?_
  refine ee_seq_reg rfl (by simp [-chunk, -Cell.isSl, -callOp, callOp_eq, ]; rfl) ?_
  refine ee_assoc ?_
  refine ee_seq_reg rfl (by simp [-chunk, -Cell.isSl, -callOp, callOp_eq, ]; rfl) ?_
  refine ee_seq_block ?_
  refine ee_loop (kq := ⟨[0, 4, 5, 6, 15, 16, 17], [4, 5, 35, 49, 1000000], [(5, some 1, 49, 35), (5, some 4, 35, 37)]⟩) (H := fun (s : Int × Int × Tlightclientmill_Deck × (List Tapi_Input) × (List Tapi_Coin)) => match s with | (p17, p18, p19, p20, p21) => (⟨([.ptr 1000000 0 0 0 2] ++ (und 3 ++ ([.ptr 4 0 0 0 7, .ptr 5 0 0 0 7, .one (.v (.int .i64 p17))] ++ (und 8 ++ ([.one (.slice .no (List.map eS_I_u8 a1)), .one (.v (.int .i64 (a1.length : Int))), .one (.v (.int .i64 p18))] ++ (und 85))))) : List PV), ([(4, ⟨0, 7, [[.v (.int .u32 0), .slice .nil [], .slice .nil [], .v (.int .u32 0), .slice .nil [], .v (.int .i64 0), .v (.int .i64 0)]], false, false⟩), (5, ⟨0, 7, [[.v (.int .u32 1), .ms 49 0 0 (p20.length) 35, .slice .nil [], .v (.int .u32 (IntKind.u32.wrap (y44.1))), .ms 35 0 0 (p21.length) 37, .v (.int .i64 0), .v (.int .i64 0)]], false, false⟩), (35, ⟨0, 37, List.map eapi_Coin p21, false, true⟩), (49, ⟨0, 35, List.map eapi_Input p20, false, true⟩), (1000000, ⟨0, 2, [[.slice .no (intsR .i64 p19.1), .v (.int .i64 p19.2)]], false, false⟩)] : Boxes)⟩ : ASt)) (by kernel_rfl) hr (by simp [und, List.replicate, ]) ?_
  rintro ⟨p17, p18, p19, p20, p21⟩ x45r hr45
  simp only [Lmill_Plan_s1] at hr45
  unfold b17_1
  simp only [und, List.replicate, List.cons_append, List.nil_append]
  refine ee_seq_reg rfl (by simp [-chunk, -Cell.isSl, -callOp, callOp_eq, ]; rfl) ?_
  by_cases c46 : p18 < (a1.length : Int)
  · skip
    have c46N := c46
    try simp at c46N
    rw [if_pos] at hr45
    rotate_left
    · simp [c46, c46N]
    refine ee_seq_condT (by simp [bV, c46, c46N]) ?_
    refine ee_seq_skip ?_
    refine ee_seq_block ?_
    obtain ⟨x47, hx47, hr45⟩ := Option.bind_eq_some_iff.1 hr45
    obtain ⟨hx47a, hx47b⟩ := idx_some hx47
    have hx47c := getE_of hx47b
    refine ee_seq_reg rfl (by simp [-chunk, -Cell.isSl, -callOp, callOp_eq, hx47a, hx47b, hx47c, c46, c46N]; rfl) ?_
    have ap48 := arC_put (k := .u8) (zA 32) (i := 0) (by decide) (1)
    have ap49 := arC_put (k := .u8) ((zA 32).put 0 1) (i := 1) (by decide) (IntKind.u8.wrap (p18))
    refine ee_seq_reg rfl (by simp [-chunk, -Cell.isSl, -callOp, callOp_eq, ap48, ap49, c46, c46N]; rfl) ?_
    obtain ⟨_, u50, hr45⟩ := Option.bind_eq_some_iff.1 hr45
    have u50_0 := chk_some u50
    have n1_u50_0 : (p21.length + 1) * 88 ≤ 140737488355328 := by omega
    have n2_u50_0 : p21.length + 1 ≤ 9223372036854775807 := by omega
    refine ee_seq_reg rfl (by simp [-chunk, -Cell.isSl, -callOp, callOp_eq, n1_u50_0, n2_u50_0, c46, c46N]; rfl) ?_
    obtain ⟨y51, hy51, hr45⟩ := Option.bind_eq_some_iff.1 hr45
    have ehy51 := G_Lmill_Deck_Next_eq hy51
    try simp only [intsR_nil, intsR_cons, intsR_app, intsR_tk, intsR_dr, intsR_st, intsR_rep, List.map_nil, List.map_cons, List.map_append, List.map_take, List.map_drop, List.map_set, List.map_replicate, List.nil_append, List.cons_append, List.append_assoc, eapi_Input, eapi_Output, eapi_Spendable, eS_I_u8, eapi_Coin] at ehy51
    obtain ⟨j52, hj52, hr45⟩ := Option.bind_eq_some_iff.1 hr45
    obtain ⟨j52a, j52b, j52c⟩ := inA_some hj52
    obtain ⟨x53, hx53, hr45⟩ := Option.bind_eq_some_iff.1 hr45
    have ghx53 := getE_of hx53
    have mhx53 : (intsR .u32 ([4294967295, 0, 4294967293]))[j52]? = some [.v (.int .u32 x53)] := by rw [intsR_get, hx53]; rfl
    simp only [intsR_cons, intsR_nil] at mhx53
    have mghx53 := getE_of mhx53
    obtain ⟨_, u54, hr45⟩ := Option.bind_eq_some_iff.1 hr45
    have u54_0 := chk_some u54
    have n1_u54_0 : (p20.length + 1) * 64 ≤ 140737488355328 := by omega
    have n2_u54_0 : p20.length + 1 ≤ 9223372036854775807 := by omega
    refine ee_seq_draw rfl (by simp [-chunk, -Cell.isSl, -callOp, callOp_eq, List.range, List.range.loop, hT27, ehy51, j52a, j52b, j52c, hx53, ghx53, mhx53, mghx53, n1_u54_0, n2_u54_0, c46, c46N]; first | exact ⟨rfl, rfl⟩ | rfl) (by kernel_rfl) ?_
    refine ee_reg rfl (by simp [-chunk, -Cell.isSl, -callOp, callOp_eq, c46, c46N]; rfl) ?_
    simp only [outOf, thenQ, QL, if_true, ite_true, reduceCtorEq, if_false]
    refine ee_reg rfl (by simp [-chunk, -Cell.isSl, -callOp, callOp_eq, c46, c46N]; rfl) ?_
    obtain rfl := Option.some.inj hr45
    simp only [outOf, thenQ, QL, if_true, ite_true, reduceCtorEq, if_false]
    simp [und, List.replicate, Nat.add_assoc, c46, c46N]
  · skip
    have c46N := c46
    try simp at c46N
    rw [if_neg] at hr45
    rotate_left
    · simp [c46, c46N]
    refine ee_seq_condF (by simp [bV, c46, c46N]) ?_
    refine ee_seq_exit ?_
    obtain ⟨r55, q55, rfl⟩ := Option.map_eq_some_iff.1 hr45
    simp only [outOf, thenQ, QL, if_true, ite_true, reduceCtorEq, if_false]
    rintro rfl
    try simp only [outOf, thenQ, QL, if_true, ite_true, reduceCtorEq, if_false]
    unfold Lmill_Plan_k1 at q55
    obtain ⟨y56, hy56, q55⟩ := Option.bind_eq_some_iff.1 q55
    have ehy56 := G_Lmill_Deck_Next_eq hy56
    try simp only [intsR_nil, intsR_cons, intsR_app, intsR_tk, intsR_dr, intsR_st, intsR_rep, List.map_nil, List.map_cons, List.map_append, List.map_take, List.map_drop, List.map_set, List.map_replicate, List.nil_append, List.cons_append, List.append_assoc, eapi_Input, eapi_Output, eapi_Spendable, eS_I_u8, eapi_Coin] at ehy56
    refine ee_seq_reg rfl (by simp [-chunk, -Cell.isSl, -callOp, callOp_eq, hT27, ehy56, c46, c46N]; rfl) ?_
    obtain ⟨y57, hy57, q55⟩ := Option.bind_eq_some_iff.1 q55
    have ehy57 := G_Lmade_Script_eq hy57
    try simp only [intsR_nil, intsR_cons, intsR_app, intsR_tk, intsR_dr, intsR_st, intsR_rep, List.map_nil, List.map_cons, List.map_append, List.map_take, List.map_drop, List.map_set, List.map_replicate, List.nil_append, List.cons_append, List.append_assoc, eapi_Input, eapi_Output, eapi_Spendable, eS_I_u8, eapi_Coin] at ehy57
    obtain ⟨y58, hy58, q55⟩ := Option.bind_eq_some_iff.1 q55
    have ehy58 := G_Lmade_Script_eq hy58
    try simp only [intsR_nil, intsR_cons, intsR_app, intsR_tk, intsR_dr, intsR_st, intsR_rep, List.map_nil, List.map_cons, List.map_append, List.map_take, List.map_drop, List.map_set, List.map_replicate, List.nil_append, List.cons_append, List.append_assoc, eapi_Input, eapi_Output, eapi_Spendable, eS_I_u8, eapi_Coin] at ehy58
    refine ee_seq_draw rfl (by simp [-chunk, -Cell.isSl, -callOp, callOp_eq, hT18, ehy57, ehy58, List.range, List.range.loop, c46, c46N]; first | exact ⟨rfl, rfl⟩ | rfl) (by kernel_rfl) ?_
    refine ee_seq_reg rfl (by simp [-chunk, -Cell.isSl, -callOp, callOp_eq, c46, c46N]; rfl) ?_
    refine ee_assoc ?_
    obtain ⟨y59, hy59, q55⟩ := Option.bind_eq_some_iff.1 q55
    have ehy59 := G_Lmill_Deck_Next_eq hy59
    try simp only [intsR_nil, intsR_cons, intsR_app, intsR_tk, intsR_dr, intsR_st, intsR_rep, List.map_nil, List.map_cons, List.map_append, List.map_take, List.map_drop, List.map_set, List.map_replicate, List.nil_append, List.cons_append, List.append_assoc, eapi_Input, eapi_Output, eapi_Spendable, eS_I_u8, eapi_Coin] at ehy59
    refine ee_seq_reg rfl (by simp [-chunk, -Cell.isSl, -callOp, callOp_eq, hT27, ehy59, c46, c46N]; rfl) ?_
    refine ee_seq_block ?_
    refine ee_seq_reg rfl (by simp [-chunk, -Cell.isSl, -callOp, callOp_eq, c46, c46N]; rfl) ?_
    by_cases c60 : y59.1 = 0
    · skip
      rw [if_pos] at q55
      rotate_left
      · simp [c46, c46N, eq_true c60]
      refine ee_condT (by simp [bV, c46, c46N, eq_true c60]) ?_
      refine ee_reg rfl (by simp [-chunk, -Cell.isSl, -callOp, callOp_eq, c46, c46N, eq_true c60]; rfl) ?_
      simp only [outOf, thenQ, QL, if_true, ite_true, reduceCtorEq, if_false]
      unfold Lmill_Plan_k2 at q55
      refine ee_seq_reg rfl (by simp [-chunk, -Cell.isSl, -callOp, callOp_eq, c46, c46N, eq_true c60]; rfl) ?_
      refine ee_ret ?_
      obtain rfl := Option.some.inj q55
      simp [FinQ, -chunk, -Cell.isSl, -callOp, callOp_eq, c46, c46N, eq_true c60]
    · skip
      rw [if_neg] at q55
      rotate_left
      · simp [c46, c46N, c60]
      refine ee_condF (by simp [bV, c46, c46N, c60]) ?_
      refine ee_seq_reg rfl (by simp [-chunk, -Cell.isSl, -callOp, callOp_eq, c46, c46N, c60]; rfl) ?_
      by_cases c61 : y59.1 = 1
      · skip
        rw [if_pos] at q55
        rotate_left
        · simp [c46, c46N, c60, eq_true c61]
        refine ee_condT (by simp [bV, c46, c46N, c60, eq_true c61]) ?_
        obtain ⟨y62, hy62, q55⟩ := Option.bind_eq_some_iff.1 q55
        have ehy62 := G_Lmill_Deck_Next_eq hy62
        try simp only [intsR_nil, intsR_cons, intsR_app, intsR_tk, intsR_dr, intsR_st, intsR_rep, List.map_nil, List.map_cons, List.map_append, List.map_take, List.map_drop, List.map_set, List.map_replicate, List.nil_append, List.cons_append, List.append_assoc, eapi_Input, eapi_Output, eapi_Spendable, eS_I_u8, eapi_Coin] at ehy62
        refine ee_seq_draw rfl (by simp [-chunk, -Cell.isSl, -callOp, callOp_eq, hT27, ehy62, c46, c46N, c60, eq_true c61]; first | exact ⟨rfl, rfl⟩ | rfl) (by kernel_rfl) ?_
        refine ee_reg rfl (by simp [-chunk, -Cell.isSl, -callOp, callOp_eq, c46, c46N, c60, eq_true c61]; rfl) ?_
        simp only [outOf, thenQ, QL, if_true, ite_true, reduceCtorEq, if_false]
        unfold Lmill_Plan_k2 at q55
        refine ee_seq_reg rfl (by simp [-chunk, -Cell.isSl, -callOp, callOp_eq, c46, c46N, c60, eq_true c61]; rfl) ?_
        refine ee_ret ?_
        obtain rfl := Option.some.inj q55
        simp [FinQ, -chunk, -Cell.isSl, -callOp, callOp_eq, c46, c46N, c60, eq_true c61]
      · skip
        rw [if_neg] at q55
        rotate_left
        · simp [c46, c46N, c60, c61]
        refine ee_condF (by simp [bV, c46, c46N, c60, c61]) ?_
        refine ee_skip ?_
        simp only [outOf, thenQ, QL, if_true, ite_true, reduceCtorEq, if_false]
        unfold Lmill_Plan_k2 at q55
        refine ee_seq_reg rfl (by simp [-chunk, -Cell.isSl, -callOp, callOp_eq, c46, c46N, c60, c61]; rfl) ?_
        refine ee_ret ?_
        obtain rfl := Option.some.inj q55
        simp [FinQ, -chunk, -Cell.isSl, -callOp, callOp_eq, c46, c46N, c60, c61]
def kp19 : Keep := fun i => ⟨[], [], []⟩
theorem w19 {T : Tab} (x : Tapi_OutPoint) (hr : Lmade_Null  = some x) : ∃ kp fl n, execFn tt T G kp fl n Try.f19 [] = some (.agg ((arC .u8 x.1) ++ ((.v (.int .u32 x.2)) :: [])), []) := by
  refine fnE (kp := kp19) (w := false) body19 ?_
  unfold c19
  rw [Try.ntmps19]
  unfold Lmade_Null at hr
  refine ee_seq_reg rfl (by simp [-chunk, -Cell.isSl, -callOp, callOp_eq, ]; rfl) ?_
  refine ee_seq_reg rfl (by simp [-chunk, -Cell.isSl, -callOp, callOp_eq, ]; rfl) ?_
  refine ee_ret ?_
  obtain rfl := Option.some.inj hr
  simp [FinQ, -chunk, -Cell.isSl, -callOp, callOp_eq, ]
def kp51 : Keep := fun i => ⟨[], [], []⟩
theorem w51 {T : Tab} (a0 : Tapi_OutPoint) (x : Bool) (hr : Ltx_null a0 = some x) : ∃ kp fl n, execFn tt T G kp fl n Try.f51 [.agg ((arC .u8 a0.1) ++ ((.v (.int .u32 a0.2)) :: []))] = some (.one (.v (.bool x)), []) := by
  refine fnE (kp := kp51) (w := false) body51 ?_
  unfold c51
  rw [Try.ntmps51]
  unfold Ltx_null at hr
  refine ee_seq_reg rfl (by simp [-chunk, -Cell.isSl, -callOp, callOp_eq, ]; rfl) ?_
  refine ee_seq_reg rfl (by simp [-chunk, -Cell.isSl, -callOp, callOp_eq, ]; rfl) ?_
  refine ee_ret ?_
  obtain rfl := Option.some.inj hr
  simp [FinQ, -chunk, -Cell.isSl, -callOp, callOp_eq, ]
def kp36 : Keep := fun i => ⟨[], [], []⟩
theorem w36 {T : Tab} (hT51 : T 51 = some G_Ltx_null) (a0 : Tapi_Tx) (x : Bool) (hr : Ltx_Coinbase a0 = some x) : ∃ kp fl n, execFn tt T G kp fl n Try.f36 [.agg ([.v (.int .u32 a0.1), .slice .no (List.map eapi_Input a0.2.1), .slice .no (List.map eapi_Output a0.2.2.1), .v (.int .u32 a0.2.2.2)])] = some (.one (.v (.bool x)), []) := by
  refine fnE (kp := kp36) (w := false) body36 ?_
  unfold c36
  rw [Try.ntmps36]
  unfold Ltx_Coinbase at hr
  refine ee_seq_reg rfl (by simp [-chunk, -Cell.isSl, -callOp, callOp_eq, ]; rfl) ?_
  by_cases c4 : (a0.2.1.length : Int) = 1
  · skip
    have c4N := c4
    try simp at c4N
    rw [if_pos] at hr
    rotate_left
    · simp [eq_true c4, eq_true c4N]
    obtain ⟨z5, hz5, hr⟩ := Option.bind_eq_some_iff.1 hr
    obtain ⟨x6, hx6, hz5⟩ := Option.bind_eq_some_iff.1 hz5
    have hx6c := getE_of hx6
    obtain ⟨y7, hy7, hz5⟩ := Option.bind_eq_some_iff.1 hz5
    have ehy7 := G_Ltx_null_eq hy7
    try simp only [intsR_nil, intsR_cons, intsR_app, intsR_tk, intsR_dr, intsR_st, intsR_rep, List.map_nil, List.map_cons, List.map_append, List.map_take, List.map_drop, List.map_set, List.map_replicate, List.nil_append, List.cons_append, List.append_assoc, eapi_Input, eapi_Output, eapi_Spendable, eS_I_u8, eapi_Coin] at ehy7
    obtain rfl := Option.some.inj hz5
    refine ee_seq_reg rfl (by simp [-chunk, -Cell.isSl, -callOp, callOp_eq, hx6, hx6c, hT51, ehy7, eq_true c4, eq_true c4N]; rfl) ?_
    refine ee_ret ?_
    obtain rfl := Option.some.inj hr
    simp [FinQ, -chunk, -Cell.isSl, -callOp, callOp_eq, hx6, hx6c, hT51, ehy7, eq_true c4, eq_true c4N]
  · skip
    have c4N := c4
    try simp at c4N
    rw [if_neg] at hr
    rotate_left
    · simp [c4, c4N]
    obtain ⟨z8, hz8, hr⟩ := Option.bind_eq_some_iff.1 hr
    obtain rfl := Option.some.inj hz8
    refine ee_seq_reg rfl (by simp [-chunk, -Cell.isSl, -callOp, callOp_eq, c4, c4N]; rfl) ?_
    refine ee_ret ?_
    obtain rfl := Option.some.inj hr
    simp [FinQ, -chunk, -Cell.isSl, -callOp, callOp_eq, c4, c4N]
def kp50 : Keep := fun i => if i = 3 then ⟨[3, 6, 7, 8], [], []⟩ else ⟨[], [], []⟩
theorem w50 {T : Tab} (a0 : (List Tapi_Output)) (x : Bool) (hr : Ltx_money a0 = some x) : ∃ kp fl n, execFn tt T G kp fl n Try.f50 [.one (.slice .no (List.map eapi_Output a0))] = some (.one (.v (.bool x)), []) := by
  refine fnE (kp := kp50) (w := false) body50 ?_
  unfold c50
  rw [Try.ntmps50]
  unfold Ltx_money at hr
  refine ee_seq_reg rfl (by simp [-chunk, -Cell.isSl, -callOp, callOp_eq, ]; rfl) ?_
  refine ee_seq_reg rfl (by simp [-chunk, -Cell.isSl, -callOp, callOp_eq, ]; rfl) ?_
  refine ee_assoc ?_
  refine ee_seq_reg rfl (by simp [-chunk, -Cell.isSl, -callOp, callOp_eq, ]; rfl) ?_
  refine ee_seq_block ?_
  refine ee_loop (kq := ⟨[3, 6, 7, 8], [], []⟩) (H := fun (s : Int × Int) => match s with | (p5, p6) => (⟨(und 3 ++ ([.one (.v (.int .i64 p5))] ++ (und 2 ++ ([.one (.slice .no (List.map eapi_Output a0)), .one (.v (.int .i64 (a0.length : Int))), .one (.v (.int .i64 p6))] ++ (und 13)))) : List PV), ([] : Boxes)⟩ : ASt)) (by kernel_rfl) hr (by simp [und, List.replicate, ]) ?_
  rintro ⟨p5, p6⟩ x9r hr9
  simp only [Ltx_money_s1] at hr9
  unfold b50_1
  simp only [und, List.replicate, List.cons_append, List.nil_append]
  refine ee_seq_reg rfl (by simp [-chunk, -Cell.isSl, -callOp, callOp_eq, ]; rfl) ?_
  by_cases c10 : p6 < (a0.length : Int)
  · skip
    have c10N := c10
    try simp at c10N
    rw [if_pos] at hr9
    rotate_left
    · simp [c10, c10N]
    refine ee_seq_condT (by simp [bV, c10, c10N]) ?_
    refine ee_seq_skip ?_
    refine ee_seq_block ?_
    obtain ⟨x11, hx11, hr9⟩ := Option.bind_eq_some_iff.1 hr9
    obtain ⟨hx11a, hx11b⟩ := idx_some hx11
    have hx11c := getE_of hx11b
    refine ee_seq_reg rfl (by simp [-chunk, -Cell.isSl, -callOp, callOp_eq, hx11a, hx11b, hx11c, c10, c10N]; rfl) ?_
    refine ee_assoc ?_
    refine ee_seq_reg rfl (by simp [-chunk, -Cell.isSl, -callOp, callOp_eq, c10, c10N]; rfl) ?_
    by_cases c12 : IntKind.i64.wrap (2100000000000000 - p5) < x11.1
    · skip
      rw [if_pos] at hr9
      rotate_left
      · simp [c10, c10N, c12]
      refine ee_seq_condT (by simp [bV, c10, c10N, c12]) ?_
      refine ee_assoc ?_
      refine ee_seq_reg rfl (by simp [-chunk, -Cell.isSl, -callOp, callOp_eq, c10, c10N, c12]; rfl) ?_
      refine ee_seq_ret ?_
      obtain rfl := Option.some.inj hr9
      simp only [outOf, thenQ, QL, if_true, ite_true, reduceCtorEq, if_false]
      rintro rfl
      simp [FinQ, -chunk, -Cell.isSl, -callOp, callOp_eq, c10, c10N, c12]
    · skip
      rw [if_neg] at hr9
      rotate_left
      · simp [c10, c10N, c12]
      refine ee_seq_condF (by simp [bV, c10, c10N, c12]) ?_
      refine ee_seq_skip ?_
      refine ee_reg rfl (by simp [-chunk, -Cell.isSl, -callOp, callOp_eq, c10, c10N, c12]; rfl) ?_
      simp only [outOf, thenQ, QL, if_true, ite_true, reduceCtorEq, if_false]
      refine ee_reg rfl (by simp [-chunk, -Cell.isSl, -callOp, callOp_eq, c10, c10N, c12]; rfl) ?_
      obtain rfl := Option.some.inj hr9
      simp only [outOf, thenQ, QL, if_true, ite_true, reduceCtorEq, if_false]
      simp [und, List.replicate, Nat.add_assoc, c10, c10N, c12]
  · skip
    have c10N := c10
    try simp at c10N
    rw [if_neg] at hr9
    rotate_left
    · simp [c10, c10N]
    refine ee_seq_condF (by simp [bV, c10, c10N]) ?_
    refine ee_seq_exit ?_
    obtain ⟨r13, q13, rfl⟩ := Option.map_eq_some_iff.1 hr9
    simp only [outOf, thenQ, QL, if_true, ite_true, reduceCtorEq, if_false]
    rintro rfl
    try simp only [outOf, thenQ, QL, if_true, ite_true, reduceCtorEq, if_false]
    unfold Ltx_money_k1 at q13
    refine ee_seq_reg rfl (by simp [-chunk, -Cell.isSl, -callOp, callOp_eq, c10, c10N]; rfl) ?_
    refine ee_ret ?_
    obtain rfl := Option.some.inj q13
    simp [FinQ, -chunk, -Cell.isSl, -callOp, callOp_eq, c10, c10N]
end Go.Proofs.Ytanhccemhpmnhaa
